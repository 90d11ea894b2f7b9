/- Walks of whole: Make, Of, Right, Sign, Neg, Compare, Add, Mul. -/
import Derived.Test.YtncgbjhojbnecaaB1
import Derived.Test.YtncgbjhojbnecaaC2
set_option linter.unusedSimpArgs false
set_option linter.unusedVariables false
set_option linter.unnecessarySimpa false
set_option maxRecDepth 100000
set_option maxHeartbeats 4000000
namespace Go.Proofs.Ytncgbjhojbnecaa
open Go Go.Am Go.Proofs Go.Off
open Nat renaming reduceAdd -> nA,reduceSub -> nS,reduceMul -> nM,reduceBEq -> nB
open Int renaming reduceToNat -> iT,reduceAdd -> iA,reduceSub -> iS,reduceMul -> iM,reduceNeg -> iN
abbrev aW (w:RI):AV:=.agg [.c (.val (.bool w.minus)),.c (nr w.size)]
theorem rawZ_make (m:Bool) (s:Row):rawZ (RI.val ⟨m,s⟩) = ⟨m && decide (0 < s.val),rowN s.val⟩:=by
 unfold rawZ RI.val
 cases m
 ·simp
 ·simp
theorem ri_abs (a:RI):a.val.natAbs = a.size.val:=by unfold RI.val;split <;> omega
theorem rawZ_minus (z:Int):(rawZ z).minus = decide (z < 0):=rfl
theorem rawZ_size (z:Int):(rawZ z).size = rowN z.natAbs:=rfl
def sgn (z:Int):Int:=if z < 0 then -1 else if z = 0 then 0 else 1
def cmpInt (x y:Int):Int:=if x < y then -1 else if y < x then 1 else 0
theorem sgn_neg (z:Int):(sgn z < 0) = (z < 0):=by unfold sgn;split <;> rename_i h <;> simp [h];split <;> simp
theorem sgn_mul (x y:Int):sgn x * sgn y = sgn (x * y):=by
 unfold sgn
 rcases Int.lt_trichotomy x 0 with hx | hx | hx <;> rcases Int.lt_trichotomy y 0 with hy | hy | hy
 ·have:=Int.mul_pos_of_neg_of_neg hx hy
  simp [hx,hy,show ¬ x * y < 0 by omega,show ¬ x * y = 0 by omega]
 ·simp [hx,hy]
 ·have:=Int.mul_neg_of_neg_of_pos hx hy
  simp [hx,this,show ¬ y < 0 by omega,show ¬ y = 0 by omega]
 ·simp [hx]
 ·simp [hx]
 ·simp [hx]
 ·have:=Int.mul_neg_of_pos_of_neg hx hy
  simp [hy,this,show ¬ x < 0 by omega,show ¬ x = 0 by omega]
 ·simp [hy]
 ·have:=Int.mul_pos hx hy
  simp [show ¬ x < 0 by omega,show ¬ x = 0 by omega,show ¬ y < 0 by omega,show ¬ y = 0 by omega,show ¬ x * y < 0 by omega,show ¬ x * y = 0 by omega]
theorem sgn_bound (z:Int) : -1 <= sgn z /\ sgn z <= 1:=by unfold sgn;split <;> (try split) <;> omega
theorem len_abs (z:Int):(osl (rowN z.natAbs)).length = 0 ↔ z = 0:=by rw [osl_rowN,List.length_eq_zero_iff,digits_nil_iff,Int.natAbs_eq_zero]
theorem ri_eta (a:RI):(⟨a.minus,a.size⟩:RI) = a:=rfl
abbrev c79:CC:=(.seq (.reg [⟨some 4,none,.new 39 [(.bool false),(.slice none 0 0)]⟩]) (.seq (.reg [⟨some 5,none,.mv (.tmp 1)⟩,⟨some 6,none,.callf (.func 95) [(.tmp 5),(.const (.int .i64 (0)))]⟩,⟨some 1,none,.mv (.tmp 6)⟩]) (.seq (.reg [⟨some 7,none,.mv (.tmp 0)⟩,⟨some 8,none,.mv (.tmp 7)⟩,⟨some 9,(some (8,true)),.mv (.tmp 1)⟩,⟨some 10,(some (8,true)),.len false (.tmp 9)⟩,⟨some 11,(some (8,true)),.bin .gtr (.tmp 10) (.const (.int .i64 (0)))⟩,⟨some 12,none,.pick (.tmp 8) (.tmp 11) (.const (.bool false))⟩,⟨some 13,none,.mv (.tmp 1)⟩,⟨some 14,none,.build [(.bool false),(.slice none 0 0)] [(0,(1,(.tmp 12))),(1,(1,(.tmp 13)))]⟩,⟨none,none,.store 2 (.tmp 4) (.tmp 14)⟩]) .ret)))
theorem cc79:ccode Try.prog [] (Try.f79.body.getD .skip) = some c79:=by kernel_rfl
theorem body79:Try.f79.body = some (Try.f79.body.getD .skip):=rfl
theorem wmake_C (m:Bool) (s:Row) (hs:(osl s).length <= 1000000000):PureC Try.prog 79 [aB m,aN s] (.ret (aW (rawZ (RI.val ⟨m,s⟩)))):=by
 have hsh:=shift_C s 0 hs (by decide)
 rw [Nat.pow_zero,Nat.mul_one] at hsh
 change PureC _ _ [aN s,aI 0] _ at hsh
 rw [rawZ_make]
 have hl:(osl (rowN s.val)).length = 0 ↔ s.val = 0:=by rw [osl_rowN,List.length_eq_zero_iff,digits_nil_iff]
 by_cases h0:s.val = 0
 ·have hl2:=hl.2 h0
  rw [show decide (0 < s.val) = false from by simp [h0],Bool.and_false]
  generalize rowN s.val = t at *
  cases m
  ·refine pureC_of (rs:=[(RV.cell 4 2 true)]) Try.func79 (fun a w=>Try.call79 a w) body79 cc79 (by kernel_rfl) ?_
   rw [Try.ntmps79]
   simp only [frs,nA,nS]
   repeat (first | (with_reducible first | refine Way.imp ?_ | refine blk_o rfl ?_) | ((with_reducible refine WayR.imp (fun K hK=>?_));simp (disch:=first | omega | (simp only [dls];omega)) only [std,reduceIte,reduceCtorEq,iT,nA,nS,nM,iA,iS,iM,iN,fU,rawZ_minus,rawZ_size];subst hK) | refine zcA (hsh) rfl rfl rfl ?_)
   exact ⟨_,rfl,rfl⟩
  ·refine pureC_of (rs:=[(RV.cell 4 2 true)]) Try.func79 (fun a w=>Try.call79 a w) body79 cc79 (by kernel_rfl) ?_
   rw [Try.ntmps79]
   simp only [frs,nA,nS]
   repeat (first | (with_reducible first | refine Way.imp ?_ | refine blk_o rfl ?_) | ((with_reducible refine WayR.imp (fun K hK=>?_));simp (disch:=first | omega | (simp only [dls];omega)) only [std,reduceIte,reduceCtorEq,iT,nA,nS,nM,iA,iS,iM,iN,fU,rawZ_minus,rawZ_size];subst hK) | refine zcA (hsh) rfl rfl rfl ?_)
   exact ⟨_,rfl,rfl⟩
 ·have hl2:(osl (rowN s.val)).length ≠ 0:=fun e=>h0 (hl.1 e)
  rw [show decide (0 < s.val) = true from by simp;omega,Bool.and_true]
  generalize rowN s.val = t at *
  cases m
  ·refine pureC_of (rs:=[(RV.cell 4 2 true)]) Try.func79 (fun a w=>Try.call79 a w) body79 cc79 (by kernel_rfl) ?_
   rw [Try.ntmps79]
   simp only [frs,nA,nS]
   repeat (first | (with_reducible first | refine Way.imp ?_ | refine blk_o rfl ?_) | ((with_reducible refine WayR.imp (fun K hK=>?_));simp (disch:=first | omega | (simp only [dls];omega)) only [std,reduceIte,reduceCtorEq,iT,nA,nS,nM,iA,iS,iM,iN,fU,rawZ_minus,rawZ_size];subst hK) | refine zcA (hsh) rfl rfl rfl ?_)
   exact ⟨_,rfl,rfl⟩
  ·refine pureC_of (rs:=[(RV.cell 4 2 true)]) Try.func79 (fun a w=>Try.call79 a w) body79 cc79 (by kernel_rfl) ?_
   rw [Try.ntmps79]
   simp only [frs,nA,nS]
   repeat (first | (with_reducible first | refine Way.imp ?_ | refine blk_o rfl ?_) | ((with_reducible refine WayR.imp (fun K hK=>?_));simp (disch:=first | omega | (simp only [dls];omega)) only [std,reduceIte,reduceCtorEq,iT,nA,nS,nM,iA,iS,iM,iN,fU,rawZ_minus,rawZ_size];subst hK) | refine zcA (hsh) rfl rfl rfl ?_)
   exact ⟨_,rfl,rfl⟩
abbrev c59:CC:=(.seq (.reg [⟨some 1,none,.box 39 (.tmp 0)⟩,⟨some 2,none,.mv (.const (.int .i64 (0)))⟩]) (.seq (.reg [⟨some 3,none,.faddr 0 (.tmp 1)⟩,⟨some 4,none,.load 1 false (.tmp 3)⟩,⟨some 5,none,.faddr 1 (.tmp 1)⟩,⟨some 6,none,.load 1 false (.tmp 5)⟩,⟨some 7,none,.callf (.func 79) [(.tmp 4),(.tmp 6)]⟩,⟨none,none,.store 2 (.tmp 1) (.tmp 7)⟩]) (.seq (.block 0 (.seq (.reg [⟨some 9,none,.faddr 1 (.tmp 1)⟩,⟨some 10,none,.load 1 false (.tmp 9)⟩,⟨some 11,none,.len false (.tmp 10)⟩,⟨some 12,none,.bin .eql (.tmp 11) (.const (.int .i64 (0)))⟩,⟨some 8,none,.mv (.tmp 12)⟩]) (.cond (.tmp 8) (.seq (.reg [⟨some 2,none,.mv (.const (.int .i64 (0)))⟩]) .ret) (.seq (.reg [⟨some 14,none,.faddr 0 (.tmp 1)⟩,⟨some 15,none,.load 1 false (.tmp 14)⟩,⟨some 13,none,.mv (.tmp 15)⟩]) (.cond (.tmp 13) (.seq (.reg [⟨some 2,none,.mv (.const (.int .i64 (-1)))⟩]) .ret) .skip))))) (.seq (.reg [⟨some 2,none,.mv (.const (.int .i64 (1)))⟩]) .ret))))
theorem cc59:ccode Try.prog [] (Try.f59.body.getD .skip) = some c59:=by kernel_rfl
theorem body59:Try.f59.body = some (Try.f59.body.getD .skip):=rfl
theorem wsign_C (a:RI) (ha:(osl a.size).length <= 1000000000):PureC Try.prog 59 [aW a] (.ret (aI (sgn a.val))):=by
 have hmk:=wmake_C a.minus a.size ha
 rw [ri_eta] at hmk
 have hl:=len_abs a.val
 generalize a.val = z at *
 unfold sgn
 by_cases h0:z = 0
 ·have hl2:=hl.2 h0
  rw [if_neg (by omega),if_pos h0]
  refine pureC_of (rs:=[(RV.tmp 2)]) Try.func59 (fun a w=>Try.call59 a w) body59 cc59 (by kernel_rfl) ?_
  rw [Try.ntmps59]
  simp only [frs,nA,nS]
  repeat (first | (with_reducible first | refine Way.imp ?_ | refine blk_o rfl ?_) | ((with_reducible refine WayR.imp (fun K hK=>?_));simp (disch:=first | omega | (simp only [dls];omega)) only [std,reduceIte,reduceCtorEq,iT,nA,nS,nM,iA,iS,iM,iN,fU,rawZ_minus,rawZ_size];subst hK) | refine zcA (hmk) rfl rfl rfl ?_)
  exact ⟨_,rfl,rfl⟩
 ·have hl2:(osl (rowN z.natAbs)).length ≠ 0:=fun e=>h0 (hl.1 e)
  by_cases h1:z < 0
  ·rw [if_pos h1]
   refine pureC_of (rs:=[(RV.tmp 2)]) Try.func59 (fun a w=>Try.call59 a w) body59 cc59 (by kernel_rfl) ?_
   rw [Try.ntmps59]
   simp only [frs,nA,nS]
   repeat (first | (with_reducible first | refine Way.imp ?_ | refine blk_o rfl ?_) | ((with_reducible refine WayR.imp (fun K hK=>?_));simp (disch:=first | omega | (simp only [dls];omega)) only [std,reduceIte,reduceCtorEq,iT,nA,nS,nM,iA,iS,iM,iN,fU,rawZ_minus,rawZ_size];subst hK) | refine zcA (hmk) rfl rfl rfl ?_)
   exact ⟨_,rfl,rfl⟩
  ·rw [if_neg h1,if_neg h0]
   refine pureC_of (rs:=[(RV.tmp 2)]) Try.func59 (fun a w=>Try.call59 a w) body59 cc59 (by kernel_rfl) ?_
   rw [Try.ntmps59]
   simp only [frs,nA,nS]
   repeat (first | (with_reducible first | refine Way.imp ?_ | refine blk_o rfl ?_) | ((with_reducible refine WayR.imp (fun K hK=>?_));simp (disch:=first | omega | (simp only [dls];omega)) only [std,reduceIte,reduceCtorEq,iT,nA,nS,nM,iA,iS,iM,iN,fU,rawZ_minus,rawZ_size];subst hK) | refine zcA (hmk) rfl rfl rfl ?_)
   exact ⟨_,rfl,rfl⟩
abbrev c91:CC:=(.seq (.reg [⟨some 1,none,.box 39 (.tmp 0)⟩,⟨some 2,none,.new 39 [(.bool false),(.slice none 0 0)]⟩]) (.seq (.reg [⟨some 3,none,.faddr 0 (.tmp 1)⟩,⟨some 4,none,.load 1 false (.tmp 3)⟩,⟨some 5,none,.un .not (.tmp 4)⟩,⟨some 6,none,.faddr 1 (.tmp 1)⟩,⟨some 7,none,.load 1 false (.tmp 6)⟩,⟨some 8,none,.callf (.func 79) [(.tmp 5),(.tmp 7)]⟩,⟨none,none,.store 2 (.tmp 2) (.tmp 8)⟩]) .ret))
theorem cc91:ccode Try.prog [] (Try.f91.body.getD .skip) = some c91:=by kernel_rfl
theorem body91:Try.f91.body = some (Try.f91.body.getD .skip):=rfl
theorem wneg_C (a:RI) (ha:(osl a.size).length <= 1000000000):PureC Try.prog 91 [aW a] (.ret (aW (rawZ (-a.val)))):=by
 have hmk:=wmake_C (!a.minus) a.size ha
 rw [show RI.val ⟨!a.minus,a.size⟩ = -a.val from by unfold RI.val;cases a.minus <;> simp] at hmk
 refine pureC_of (rs:=[(RV.cell 2 2 true)]) Try.func91 (fun a w=>Try.call91 a w) body91 cc91 (by kernel_rfl) ?_
 rw [Try.ntmps91]
 simp only [frs,nA,nS]
 repeat (first | (with_reducible first | refine Way.imp ?_ | refine blk_o rfl ?_) | ((with_reducible refine WayR.imp (fun K hK=>?_));simp (disch:=first | omega | (simp only [dls];omega)) only [std,reduceIte,reduceCtorEq,iT,nA,nS,nM,iA,iS,iM,iN,fU,rawZ_minus,rawZ_size];subst hK) | refine zcA (hmk) rfl rfl rfl ?_)
 exact ⟨_,rfl,rfl⟩
abbrev c50:CC:=(.seq (.reg [⟨some 2,none,.box 39 (.tmp 0)⟩,⟨some 3,none,.box 39 (.tmp 1)⟩,⟨some 4,none,.mv (.const (.int .i64 (0)))⟩]) (.seq (.reg [⟨some 7,none,.load 2 true (.tmp 2)⟩,⟨some 8,none,.callf (.func 59) [(.tmp 7)]⟩,⟨some 9,none,.load 2 true (.tmp 3)⟩,⟨some 10,none,.callf (.func 59) [(.tmp 9)]⟩,⟨some 5,none,.mv (.tmp 8)⟩,⟨some 6,none,.mv (.tmp 10)⟩]) (.seq (.seq (.reg [⟨some 11,none,.mv (.tmp 5)⟩,⟨some 12,none,.mv (.tmp 6)⟩,⟨some 13,none,.bin .neq (.tmp 11) (.tmp 12)⟩]) (.cond (.tmp 13) (.seq (.reg [⟨some 14,none,.mv (.tmp 5)⟩,⟨some 15,none,.mv (.tmp 6)⟩,⟨some 16,none,.bin .sub (.tmp 14) (.tmp 15)⟩,⟨some 17,none,.mm true (.tmp 16) (.const (.int .i64 (-1)))⟩,⟨some 18,none,.mm false (.tmp 17) (.const (.int .i64 (1)))⟩,⟨some 4,none,.mv (.tmp 18)⟩]) .ret) .skip)) (.seq (.seq (.reg [⟨some 19,none,.mv (.tmp 5)⟩,⟨some 20,none,.bin .lss (.tmp 19) (.const (.int .i64 (0)))⟩]) (.cond (.tmp 20) (.seq (.reg [⟨some 21,none,.faddr 1 (.tmp 3)⟩,⟨some 22,none,.load 1 false (.tmp 21)⟩,⟨some 23,none,.faddr 1 (.tmp 2)⟩,⟨some 24,none,.load 1 false (.tmp 23)⟩,⟨some 25,none,.callf (.func 81) [(.tmp 22),(.tmp 24)]⟩,⟨some 4,none,.mv (.tmp 25)⟩]) .ret) .skip)) (.seq (.reg [⟨some 26,none,.faddr 1 (.tmp 2)⟩,⟨some 27,none,.load 1 false (.tmp 26)⟩,⟨some 28,none,.faddr 1 (.tmp 3)⟩,⟨some 29,none,.load 1 false (.tmp 28)⟩,⟨some 30,none,.callf (.func 81) [(.tmp 27),(.tmp 29)]⟩,⟨some 4,none,.mv (.tmp 30)⟩]) .ret)))))
theorem cc50:ccode Try.prog [] (Try.f50.body.getD .skip) = some c50:=by kernel_rfl
theorem body50:Try.f50.body = some (Try.f50.body.getD .skip):=rfl
theorem wcompare_C (a b:RI) (ha:(osl a.size).length <= 1000000000) (hb:(osl b.size).length <= 1000000000):PureC Try.prog 50 [aW a,aW b] (.ret (aI (cmpInt a.val b.val))):=by
 have hsa:=wsign_C a ha
 have hsb:=wsign_C b hb
 have hab:=compare_C a.size b.size ha hb
 have hba:=compare_C b.size a.size hb ha
 have h1:=ri_abs a
 have h2:=ri_abs b
 have b1:=sgn_bound a.val
 have b2:=sgn_bound b.val
 by_cases hne:sgn a.val = sgn b.val
 ·by_cases hlt:sgn a.val < 0
  ·have hlt2:=hlt
   rw [sgn_neg] at hlt2
   have hlt3:=hlt
   rw [hne,sgn_neg] at hlt3
   rw [show cmpInt a.val b.val = cmpNat b.size.val a.size.val from by unfold cmpInt cmpNat;rw [<- h1,<- h2];split <;> split <;> (try split) <;> (try split) <;> omega]
   generalize cmpNat b.size.val a.size.val = z at *
   generalize sgn a.val = x at *
   generalize sgn b.val = y at *
   refine pureC_of (rs:=[(RV.tmp 4)]) Try.func50 (fun a w=>Try.call50 a w) body50 cc50 (by kernel_rfl) ?_
   rw [Try.ntmps50]
   simp only [frs,nA,nS]
   repeat (first | (with_reducible first | refine Way.imp ?_ | refine blk_o rfl ?_) | ((with_reducible refine WayR.imp (fun K hK=>?_));simp (disch:=first | omega | (simp only [dls];omega)) only [std,reduceIte,reduceCtorEq,iT,nA,nS,nM,iA,iS,iM,iN,fU,rawZ_minus,rawZ_size];subst hK) | refine zcA (hsa) rfl rfl rfl ?_ | refine zcA (hsb) rfl rfl rfl ?_ | refine zcA (hba) rfl rfl rfl ?_)
   exact ⟨_,rfl,rfl⟩
  ·have hlt2:=hlt
   rw [sgn_neg] at hlt2
   have hlt3:=hlt
   rw [hne,sgn_neg] at hlt3
   rw [show cmpInt a.val b.val = cmpNat a.size.val b.size.val from by unfold cmpInt cmpNat;rw [<- h1,<- h2];split <;> split <;> (try split) <;> (try split) <;> omega]
   generalize cmpNat a.size.val b.size.val = z at *
   generalize sgn a.val = x at *
   generalize sgn b.val = y at *
   refine pureC_of (rs:=[(RV.tmp 4)]) Try.func50 (fun a w=>Try.call50 a w) body50 cc50 (by kernel_rfl) ?_
   rw [Try.ntmps50]
   simp only [frs,nA,nS]
   repeat (first | (with_reducible first | refine Way.imp ?_ | refine blk_o rfl ?_) | ((with_reducible refine WayR.imp (fun K hK=>?_));simp (disch:=first | omega | (simp only [dls];omega)) only [std,reduceIte,reduceCtorEq,iT,nA,nS,nM,iA,iS,iM,iN,fU,rawZ_minus,rawZ_size];subst hK) | refine zcA (hsa) rfl rfl rfl ?_ | refine zcA (hsb) rfl rfl rfl ?_ | refine zcA (hab) rfl rfl rfl ?_)
   exact ⟨_,rfl,rfl⟩
 ·rw [show cmpInt a.val b.val = min (max (sgn a.val - sgn b.val) (-1)) 1 from by
   unfold cmpInt sgn at *
   split at hne <;> split at hne <;> (try split at hne) <;> (try split at hne) <;> simp_all <;> (try split) <;> (try split) <;> omega]
  generalize sgn a.val = x at *
  generalize sgn b.val = y at *
  refine pureC_of (rs:=[(RV.tmp 4)]) Try.func50 (fun a w=>Try.call50 a w) body50 cc50 (by kernel_rfl) ?_
  rw [Try.ntmps50]
  simp only [frs,nA,nS]
  repeat (first | (with_reducible first | refine Way.imp ?_ | refine blk_o rfl ?_) | ((with_reducible refine WayR.imp (fun K hK=>?_));simp (disch:=first | omega | (simp only [dls];omega)) only [std,reduceIte,reduceCtorEq,iT,nA,nS,nM,iA,iS,iM,iN,fU,rawZ_minus,rawZ_size,ite_min];subst hK) | refine zcA (hsa) rfl rfl rfl ?_ | refine zcA (hsb) rfl rfl rfl ?_)
  exact ⟨_,rfl,rfl⟩
end Go.Proofs.Ytncgbjhojbnecaa
namespace Go.Proofs.Ytncgbjhojbnecaa
open Go Go.Am Go.Proofs Go.Off
open Nat renaming reduceAdd -> nA,reduceSub -> nS,reduceMul -> nM,reduceBEq -> nB
open Int renaming reduceToNat -> iT,reduceAdd -> iA,reduceSub -> iS,reduceMul -> iM,reduceNeg -> iN
theorem ri_mk (m:Bool) (s:Row):RI.val ⟨m,s⟩ = if m = true then -(s.val:Int) else (s.val:Int):=rfl
theorem osl_len_rowN (n:Nat):(osl (rowN n)).length = (digits n).length:=rfl
theorem row_len_val (a:Row):(digits a.val).length <= (osl a).length:=digits_len_row a
abbrev c53:CC:=(.seq (.reg [⟨some 2,none,.box 39 (.tmp 0)⟩,⟨some 3,none,.box 39 (.tmp 1)⟩,⟨some 4,none,.new 39 [(.bool false),(.slice none 0 0)]⟩]) (.seq (.reg [⟨some 5,none,.load 2 true (.tmp 2)⟩,⟨some 6,none,.callf (.func 59) [(.tmp 5)]⟩,⟨some 7,none,.load 2 true (.tmp 3)⟩,⟨some 8,none,.callf (.func 59) [(.tmp 7)]⟩,⟨some 9,none,.bin .mul (.tmp 6) (.tmp 8)⟩,⟨some 10,none,.bin .lss (.tmp 9) (.const (.int .i64 (0)))⟩,⟨some 11,none,.faddr 1 (.tmp 2)⟩,⟨some 12,none,.load 1 false (.tmp 11)⟩,⟨some 13,none,.faddr 1 (.tmp 3)⟩,⟨some 14,none,.load 1 false (.tmp 13)⟩,⟨some 15,none,.callf (.func 54) [(.tmp 12),(.tmp 14)]⟩,⟨some 16,none,.callf (.func 79) [(.tmp 10),(.tmp 15)]⟩,⟨none,none,.store 2 (.tmp 4) (.tmp 16)⟩]) .ret))
theorem cc53:ccode Try.prog [] (Try.f53.body.getD .skip) = some c53:=by kernel_rfl
theorem body53:Try.f53.body = some (Try.f53.body.getD .skip):=rfl
theorem wmul_C (a b:RI) (ha:(osl a.size).length <= 400000000) (hb:(osl b.size).length <= 400000000):PureC Try.prog 53 [aW a,aW b] (.ret (aW (rawZ (a.val * b.val)))):=by
 have hsa:=wsign_C a (by omega)
 have hsb:=wsign_C b (by omega)
 have hmul:=mul_C a.size b.size (by omega) (by omega)
 have hlm:(digits (a.size.val * b.size.val)).length <= (osl a.size).length + (osl b.size).length:=by
  refine digits_len_le ?_
  rw [Nat.pow_add]
  exact Nat.mul_lt_mul'' (val_lt _) (val_lt _)
 have hmk:=wmake_C (decide (sgn a.val * sgn b.val < 0)) (rowN (a.size.val * b.size.val)) (by rw [osl_len_rowN];omega)
 rw [show RI.val ⟨decide (sgn a.val * sgn b.val < 0),rowN (a.size.val * b.size.val)⟩ = a.val * b.val from by
  rw [ri_mk,sgn_mul,rowN_val]
  simp only [sgn_neg,decide_eq_true_eq]
  rw [<- ri_abs a,<- ri_abs b,<- Int.natAbs_mul]
  split <;> omega] at hmk
 have b1:=sgn_bound (a.val * b.val)
 rw [<- sgn_mul] at b1
 generalize rowN (a.size.val * b.size.val) = t at *
 generalize sgn a.val = x at *
 generalize sgn b.val = y at *
 generalize a.val * b.val = z at *
 obtain ⟨p,hp⟩:∃ p,p = x * y:=⟨_,rfl⟩
 rw [<- hp] at b1 hmk
 by_cases hn:p < 0
 ·rw [show decide (p < 0) = true from by simp [hn]] at hmk
  refine pureC_of (rs:=[(RV.cell 4 2 true)]) Try.func53 (fun a w=>Try.call53 a w) body53 cc53 (by kernel_rfl) ?_
  rw [Try.ntmps53]
  simp only [frs,nA,nS]
  repeat (first | (with_reducible first | refine Way.imp ?_ | refine blk_o rfl ?_) | ((with_reducible refine WayR.imp (fun K hK=>?_));simp (disch:=first | omega | (simp only [dls];omega)) only [std,reduceIte,reduceCtorEq,iT,nA,nS,nM,iA,iS,iM,iN,fU,rawZ_minus,rawZ_size,<- hp];subst hK) | refine zcA (hsa) rfl rfl rfl ?_ | refine zcA (hsb) rfl rfl rfl ?_ | refine zcA (hmul) rfl rfl rfl ?_ | refine zcA (hmk) rfl rfl rfl ?_)
  exact ⟨_,rfl,rfl⟩
 ·rw [show decide (p < 0) = false from by simp [hn]] at hmk
  refine pureC_of (rs:=[(RV.cell 4 2 true)]) Try.func53 (fun a w=>Try.call53 a w) body53 cc53 (by kernel_rfl) ?_
  rw [Try.ntmps53]
  simp only [frs,nA,nS]
  repeat (first | (with_reducible first | refine Way.imp ?_ | refine blk_o rfl ?_) | ((with_reducible refine WayR.imp (fun K hK=>?_));simp (disch:=first | omega | (simp only [dls];omega)) only [std,reduceIte,reduceCtorEq,iT,nA,nS,nM,iA,iS,iM,iN,fU,rawZ_minus,rawZ_size,<- hp];subst hK) | refine zcA (hsa) rfl rfl rfl ?_ | refine zcA (hsb) rfl rfl rfl ?_ | refine zcA (hmul) rfl rfl rfl ?_ | refine zcA (hmk) rfl rfl rfl ?_)
  exact ⟨_,rfl,rfl⟩
abbrev c48:CC:=(.seq (.reg [⟨some 2,none,.new 39 [(.bool false),(.slice none 0 0)]⟩]) (.seq (.reg [⟨some 3,none,.mv (.tmp 0)⟩,⟨some 4,none,.bin .lss (.tmp 3) (.const (.int .i64 (0)))⟩,⟨some 5,none,.mv (.tmp 0)⟩,⟨some 6,none,.mv (.tmp 0)⟩,⟨some 7,none,.un .neg (.tmp 6)⟩,⟨some 8,none,.mm true (.tmp 5) (.tmp 7)⟩,⟨some 9,none,.conv .u64 (.tmp 8)⟩,⟨some 10,none,.callf (.func 49) [(.tmp 9)]⟩,⟨some 11,none,.callf (.func 79) [(.tmp 4),(.tmp 10)]⟩,⟨none,none,.store 2 (.tmp 2) (.tmp 11)⟩]) .ret))
theorem cc48:ccode Try.prog [] (Try.f48.body.getD .skip) = some c48:=by kernel_rfl
theorem body48:Try.f48.body = some (Try.f48.body.getD .skip):=rfl
theorem wof_C (n:Int) (h1 : -9223372036854775808 <= n) (h2:n <= 9223372036854775807):PureC Try.prog 48 [aI n] (.ret (aW (rawZ n))):=by
 have hof:=of_C n.natAbs (by omega)
 have hmk:=wmake_C (decide (n < 0)) (rowN n.natAbs) (by
  rw [osl_len_rowN]
  have:=digits_len_le (n:=n.natAbs) (k:=2) (by simp;omega)
  omega)
 rw [show RI.val ⟨decide (n < 0),rowN n.natAbs⟩ = n from by
  rw [ri_mk]
  simp only [rowN_val,decide_eq_true_eq]
  split <;> omega] at hmk
 have hmx:IntKind.u64.wrap (max n (IntKind.i64.wrap (0 - n))) = (n.natAbs:Int):=by
  by_cases hm:n = -9223372036854775808
  ·subst hm;decide
  ·rw [wi64 (by omega) (by omega),wu64 (by omega) (by omega)];omega
 have hmx2:(max n (IntKind.i64.wrap (0 - n)):Int) = max n (IntKind.i64.wrap (0 - n)):=rfl
 generalize rowN n.natAbs = t at *
 generalize hw:IntKind.i64.wrap (0 - n) = w at *
 by_cases hn:n < 0
 ·rw [show decide (n < 0) = true from by simp [hn]] at hmk
  have hz:rawZ n = ⟨true,rowN n.natAbs⟩:=by unfold rawZ;simp [hn]
  rw [hz] at hmk ⊢
  refine pureC_of (rs:=[(RV.cell 2 2 true)]) Try.func48 (fun a w=>Try.call48 a w) body48 cc48 (by kernel_rfl) ?_
  rw [Try.ntmps48]
  simp only [frs,nA,nS]
  repeat (first | (with_reducible first | refine Way.imp ?_ | refine blk_o rfl ?_) | ((with_reducible refine WayR.imp (fun K hK=>?_));simp (disch:=first | omega | (simp only [dls];omega)) only [std,reduceIte,reduceCtorEq,iT,nA,nS,nM,iA,iS,iM,iN,fU,rawZ_minus,rawZ_size,hw,hmx];subst hK) | refine zcA (hof) rfl rfl rfl ?_ | refine zcA (hmk) rfl rfl rfl ?_)
  exact ⟨_,rfl,rfl⟩
 ·rw [show decide (n < 0) = false from by simp [hn]] at hmk
  have hz:rawZ n = ⟨false,rowN n.natAbs⟩:=by unfold rawZ;simp [hn]
  rw [hz] at hmk ⊢
  refine pureC_of (rs:=[(RV.cell 2 2 true)]) Try.func48 (fun a w=>Try.call48 a w) body48 cc48 (by kernel_rfl) ?_
  rw [Try.ntmps48]
  simp only [frs,nA,nS]
  repeat (first | (with_reducible first | refine Way.imp ?_ | refine blk_o rfl ?_) | ((with_reducible refine WayR.imp (fun K hK=>?_));simp (disch:=first | omega | (simp only [dls];omega)) only [std,reduceIte,reduceCtorEq,iT,nA,nS,nM,iA,iS,iM,iN,fU,rawZ_minus,rawZ_size,hw,hmx];subst hK) | refine zcA (hof) rfl rfl rfl ?_ | refine zcA (hmk) rfl rfl rfl ?_)
  exact ⟨_,rfl,rfl⟩
theorem wadd_make (m:Bool) (n:Nat) (z:Int) (hl:(digits n).length <= 1000000000) (h:(if m = true then -(n:Int) else (n:Int)) = z):PureC Try.prog 79 [aB m,aN (rowN n)] (.ret (aW (rawZ z))):=by
 have hmk:=wmake_C m (rowN n) (by rw [osl_len_rowN];exact hl)
 rw [ri_mk,rowN_val,h] at hmk
 exact hmk
theorem digits_len_add (a b:Nat):(digits (a + b)).length <= (digits a).length + (digits b).length + 1:=by
 have h1:=val_lt (digits a)
 have h2:=val_lt (digits b)
 rw [val_digits] at h1 h2
 refine digits_len_le ?_
 rw [Nat.pow_succ,Nat.pow_add]
 have h3:1 <= 4294967296 ^ (digits a).length:=Nat.pow_pos (by decide)
 have h4:1 <= 4294967296 ^ (digits b).length:=Nat.pow_pos (by decide)
 generalize 4294967296 ^ (digits a).length = p at *
 generalize 4294967296 ^ (digits b).length = q at *
 have h5:p * 1 <= p * q:=Nat.mul_le_mul_left _ h4
 have h6:1 * q <= p * q:=Nat.mul_le_mul_right _ h3
 omega
abbrev c60:CC:=(.seq (.reg [⟨some 2,none,.box 39 (.tmp 0)⟩,⟨some 3,none,.box 39 (.tmp 1)⟩,⟨some 4,none,.new 39 [(.bool false),(.slice none 0 0)]⟩]) (.seq (.seq (.reg [⟨some 9,none,.load 2 true (.tmp 2)⟩,⟨some 10,none,.callf (.func 59) [(.tmp 9)]⟩,⟨some 11,none,.bin .lss (.tmp 10) (.const (.int .i64 (0)))⟩,⟨some 12,none,.load 2 true (.tmp 3)⟩,⟨some 13,none,.callf (.func 59) [(.tmp 12)]⟩,⟨some 14,none,.bin .lss (.tmp 13) (.const (.int .i64 (0)))⟩,⟨some 15,none,.beq false (.tmp 11) (.tmp 14)⟩]) (.cond (.tmp 15) (.seq (.reg [⟨some 16,none,.load 2 true (.tmp 2)⟩,⟨some 17,none,.callf (.func 59) [(.tmp 16)]⟩,⟨some 18,none,.bin .lss (.tmp 17) (.const (.int .i64 (0)))⟩,⟨some 19,none,.faddr 1 (.tmp 2)⟩,⟨some 20,none,.load 1 false (.tmp 19)⟩,⟨some 21,none,.faddr 1 (.tmp 3)⟩,⟨some 22,none,.load 1 false (.tmp 21)⟩,⟨some 23,none,.callf (.func 84) [(.tmp 20),(.tmp 22)]⟩,⟨some 24,none,.callf (.func 79) [(.tmp 18),(.tmp 23)]⟩,⟨none,none,.store 2 (.tmp 4) (.tmp 24)⟩]) .ret) .skip)) (.seq (.seq (.reg [⟨some 26,none,.faddr 1 (.tmp 2)⟩,⟨some 27,none,.load 1 false (.tmp 26)⟩,⟨some 28,none,.faddr 1 (.tmp 3)⟩,⟨some 29,none,.load 1 false (.tmp 28)⟩,⟨some 30,none,.callf (.func 85) [(.tmp 27),(.tmp 29)]⟩,⟨some 25,none,.mv (.tmp 30)⟩,⟨some 31,none,.ext (.tmp 25) 0⟩,⟨some 32,none,.ext (.tmp 25) 1⟩,⟨some 5,none,.mv (.tmp 31)⟩,⟨some 6,none,.mv (.tmp 32)⟩]) (.seq (.reg [⟨some 33,none,.mv (.tmp 6)⟩]) (.cond (.tmp 33) (.seq (.reg [⟨some 34,none,.load 2 true (.tmp 2)⟩,⟨some 35,none,.callf (.func 59) [(.tmp 34)]⟩,⟨some 36,none,.bin .lss (.tmp 35) (.const (.int .i64 (0)))⟩,⟨some 37,none,.mv (.tmp 5)⟩,⟨some 38,none,.callf (.func 79) [(.tmp 36),(.tmp 37)]⟩,⟨none,none,.store 2 (.tmp 4) (.tmp 38)⟩]) .ret) .skip))) (.seq (.reg [⟨some 40,none,.faddr 1 (.tmp 3)⟩,⟨some 41,none,.load 1 false (.tmp 40)⟩,⟨some 42,none,.faddr 1 (.tmp 2)⟩,⟨some 43,none,.load 1 false (.tmp 42)⟩,⟨some 44,none,.callf (.func 85) [(.tmp 41),(.tmp 43)]⟩,⟨some 39,none,.mv (.tmp 44)⟩,⟨some 45,none,.ext (.tmp 39) 0⟩,⟨some 46,none,.ext (.tmp 39) 1⟩,⟨some 7,none,.mv (.tmp 45)⟩,⟨some 8,none,.mv (.tmp 46)⟩]) (.seq (.reg [⟨some 47,none,.load 2 true (.tmp 3)⟩,⟨some 48,none,.callf (.func 59) [(.tmp 47)]⟩,⟨some 49,none,.bin .lss (.tmp 48) (.const (.int .i64 (0)))⟩,⟨some 50,none,.mv (.tmp 7)⟩,⟨some 51,none,.callf (.func 79) [(.tmp 49),(.tmp 50)]⟩,⟨none,none,.store 2 (.tmp 4) (.tmp 51)⟩]) .ret)))))
theorem cc60:ccode Try.prog [] (Try.f60.body.getD .skip) = some c60:=by kernel_rfl
theorem body60:Try.f60.body = some (Try.f60.body.getD .skip):=rfl
theorem wadd_C (a b:RI) (ha:(osl a.size).length <= 400000000) (hb:(osl b.size).length <= 400000000):PureC Try.prog 60 [aW a,aW b] (.ret (aW (rawZ (a.val + b.val)))):=by
 have hsa:=wsign_C a (by omega)
 have hsb:=wsign_C b (by omega)
 have h1:=ri_abs a
 have h2:=ri_abs b
 have l1:=row_len_val a.size
 have l2:=row_len_val b.size
 have l3:=digits_len_add a.size.val b.size.val
 have s1:(sgn a.val < 0) = (a.val < 0):=sgn_neg _
 have s2:(sgn b.val < 0) = (b.val < 0):=sgn_neg _
 by_cases hA:a.val < 0 <;> by_cases hB:b.val < 0
 ·have hadd:=add_C a.size b.size (by omega) (by omega)
  have hmk:=wadd_make true (a.size.val + b.size.val) (a.val + b.val) (by omega) (by rw [if_pos rfl];omega)
  have hxa:sgn a.val < 0:=by rw [s1];exact hA
  have hxb:sgn b.val < 0:=by rw [s2];exact hB
  generalize sgn a.val = x at *
  generalize sgn b.val = y at *
  generalize a.val + b.val = z at *
  refine pureC_of (rs:=[(RV.cell 4 2 true)]) Try.func60 (fun a w=>Try.call60 a w) body60 cc60 (by kernel_rfl) ?_
  rw [Try.ntmps60]
  simp only [frs,nA,nS]
  repeat (first | (with_reducible first | refine Way.imp ?_ | refine blk_o rfl ?_) | ((with_reducible refine WayR.imp (fun K hK=>?_));simp (disch:=first | omega | (simp only [dls];omega)) only [std,reduceIte,reduceCtorEq,iT,nA,nS,nM,iA,iS,iM,iN,fU,rawZ_minus,rawZ_size];subst hK) | refine zcA (hsa) rfl rfl rfl ?_ | refine zcA (hsb) rfl rfl rfl ?_ | refine zcA (hadd) rfl rfl rfl ?_ | refine zcA (hmk) rfl rfl rfl ?_)
  exact ⟨_,rfl,rfl⟩
 ·have hxa:sgn a.val < 0:=by rw [s1];exact hA
  have hxb:¬ sgn b.val < 0:=by rw [s2];exact hB
  by_cases hge:b.size.val <= a.size.val
  ·have hsub:=sub_ge a.size b.size (by omega) (by omega) hge
   have hmk:=wadd_make true (a.size.val - b.size.val) (a.val + b.val) (Nat.le_trans (digits_len_mono (Nat.sub_le _ _)) (by omega)) (by rw [if_pos rfl];omega)
   generalize sgn a.val = x at *
   generalize sgn b.val = y at *
   generalize a.val + b.val = z at *
   refine pureC_of (rs:=[(RV.cell 4 2 true)]) Try.func60 (fun a w=>Try.call60 a w) body60 cc60 (by kernel_rfl) ?_
   rw [Try.ntmps60]
   simp only [frs,nA,nS]
   repeat (first | (with_reducible first | refine Way.imp ?_ | refine blk_o rfl ?_) | ((with_reducible refine WayR.imp (fun K hK=>?_));simp (disch:=first | omega | (simp only [dls];omega)) only [std,reduceIte,reduceCtorEq,iT,nA,nS,nM,iA,iS,iM,iN,fU,rawZ_minus,rawZ_size];subst hK) | refine zcA (hsa) rfl rfl rfl ?_ | refine zcA (hsb) rfl rfl rfl ?_ | refine zcA (hsub) rfl rfl rfl ?_ | refine zcA (hmk) rfl rfl rfl ?_)
   exact ⟨_,rfl,rfl⟩
  ·have hsub:=sub_lt a.size b.size (by omega) (by omega) (by omega)
   have hsub2:=sub_ge b.size a.size (by omega) (by omega) (by omega)
   have hmk:=wadd_make false (b.size.val - a.size.val) (a.val + b.val) (Nat.le_trans (digits_len_mono (Nat.sub_le _ _)) (by omega)) (by rw [if_neg (by decide)];omega)
   generalize sgn a.val = x at *
   generalize sgn b.val = y at *
   generalize a.val + b.val = z at *
   refine pureC_of (rs:=[(RV.cell 4 2 true)]) Try.func60 (fun a w=>Try.call60 a w) body60 cc60 (by kernel_rfl) ?_
   rw [Try.ntmps60]
   simp only [frs,nA,nS]
   repeat (first | (with_reducible first | refine Way.imp ?_ | refine blk_o rfl ?_) | ((with_reducible refine WayR.imp (fun K hK=>?_));simp (disch:=first | omega | (simp only [dls];omega)) only [std,reduceIte,reduceCtorEq,iT,nA,nS,nM,iA,iS,iM,iN,fU,rawZ_minus,rawZ_size];subst hK) | refine zcA (hsa) rfl rfl rfl ?_ | refine zcA (hsb) rfl rfl rfl ?_ | refine zcA (hsub) rfl rfl rfl ?_ | refine zcA (hsub2) rfl rfl rfl ?_ | refine zcA (hmk) rfl rfl rfl ?_)
   exact ⟨_,rfl,rfl⟩
 ·have hxa:¬ sgn a.val < 0:=by rw [s1];exact hA
  have hxb:sgn b.val < 0:=by rw [s2];exact hB
  by_cases hge:b.size.val <= a.size.val
  ·have hsub:=sub_ge a.size b.size (by omega) (by omega) hge
   have hmk:=wadd_make false (a.size.val - b.size.val) (a.val + b.val) (Nat.le_trans (digits_len_mono (Nat.sub_le _ _)) (by omega)) (by rw [if_neg (by decide)];omega)
   generalize sgn a.val = x at *
   generalize sgn b.val = y at *
   generalize a.val + b.val = z at *
   refine pureC_of (rs:=[(RV.cell 4 2 true)]) Try.func60 (fun a w=>Try.call60 a w) body60 cc60 (by kernel_rfl) ?_
   rw [Try.ntmps60]
   simp only [frs,nA,nS]
   repeat (first | (with_reducible first | refine Way.imp ?_ | refine blk_o rfl ?_) | ((with_reducible refine WayR.imp (fun K hK=>?_));simp (disch:=first | omega | (simp only [dls];omega)) only [std,reduceIte,reduceCtorEq,iT,nA,nS,nM,iA,iS,iM,iN,fU,rawZ_minus,rawZ_size];subst hK) | refine zcA (hsa) rfl rfl rfl ?_ | refine zcA (hsb) rfl rfl rfl ?_ | refine zcA (hsub) rfl rfl rfl ?_ | refine zcA (hmk) rfl rfl rfl ?_)
   exact ⟨_,rfl,rfl⟩
  ·have hsub:=sub_lt a.size b.size (by omega) (by omega) (by omega)
   have hsub2:=sub_ge b.size a.size (by omega) (by omega) (by omega)
   have hmk:=wadd_make true (b.size.val - a.size.val) (a.val + b.val) (Nat.le_trans (digits_len_mono (Nat.sub_le _ _)) (by omega)) (by rw [if_pos rfl];omega)
   generalize sgn a.val = x at *
   generalize sgn b.val = y at *
   generalize a.val + b.val = z at *
   refine pureC_of (rs:=[(RV.cell 4 2 true)]) Try.func60 (fun a w=>Try.call60 a w) body60 cc60 (by kernel_rfl) ?_
   rw [Try.ntmps60]
   simp only [frs,nA,nS]
   repeat (first | (with_reducible first | refine Way.imp ?_ | refine blk_o rfl ?_) | ((with_reducible refine WayR.imp (fun K hK=>?_));simp (disch:=first | omega | (simp only [dls];omega)) only [std,reduceIte,reduceCtorEq,iT,nA,nS,nM,iA,iS,iM,iN,fU,rawZ_minus,rawZ_size];subst hK) | refine zcA (hsa) rfl rfl rfl ?_ | refine zcA (hsb) rfl rfl rfl ?_ | refine zcA (hsub) rfl rfl rfl ?_ | refine zcA (hsub2) rfl rfl rfl ?_ | refine zcA (hmk) rfl rfl rfl ?_)
   exact ⟨_,rfl,rfl⟩
 ·have hadd:=add_C a.size b.size (by omega) (by omega)
  have hmk:=wadd_make false (a.size.val + b.size.val) (a.val + b.val) (by omega) (by rw [if_neg (by decide)];omega)
  have hxa:¬ sgn a.val < 0:=by rw [s1];exact hA
  have hxb:¬ sgn b.val < 0:=by rw [s2];exact hB
  generalize sgn a.val = x at *
  generalize sgn b.val = y at *
  generalize a.val + b.val = z at *
  refine pureC_of (rs:=[(RV.cell 4 2 true)]) Try.func60 (fun a w=>Try.call60 a w) body60 cc60 (by kernel_rfl) ?_
  rw [Try.ntmps60]
  simp only [frs,nA,nS]
  repeat (first | (with_reducible first | refine Way.imp ?_ | refine blk_o rfl ?_) | ((with_reducible refine WayR.imp (fun K hK=>?_));simp (disch:=first | omega | (simp only [dls];omega)) only [std,reduceIte,reduceCtorEq,iT,nA,nS,nM,iA,iS,iM,iN,fU,rawZ_minus,rawZ_size];subst hK) | refine zcA (hsa) rfl rfl rfl ?_ | refine zcA (hsb) rfl rfl rfl ?_ | refine zcA (hadd) rfl rfl rfl ?_ | refine zcA (hmk) rfl rfl rfl ?_)
  exact ⟨_,rfl,rfl⟩
end Go.Proofs.Ytncgbjhojbnecaa
namespace Go.Proofs.Ytncgbjhojbnecaa
open Go Go.Am Go.Proofs Go.Off
open Nat renaming reduceAdd -> nA,reduceSub -> nS,reduceMul -> nM,reduceBEq -> nB
open Int renaming reduceToNat -> iT,reduceAdd -> iA,reduceSub -> iS,reduceMul -> iM,reduceNeg -> iN
abbrev aR (r:RR):AV:=.agg [.c (.val (.bool r.minus)),.c (nr r.size),.c (nr r.den)]
abbrev RRnum (r:RR):RI:=⟨r.minus,r.size⟩
theorem num_top (r:RR):(RRnum r).val = r.top:=rfl
def denR (d:Row):Row:=if d.val = 0 then rowN 1 else d
theorem denR_val (d:Row):(denR d).val = if d.val = 0 then 1 else d.val:=by unfold denR;split <;> simp [*]
theorem denR_bot (r:RR):(denR r.den).val = r.bot:=denR_val r.den
theorem denR_len (d:Row):(osl (denR d)).length <= max 1 (osl d).length:=by
 unfold denR;split
 ·rw [osl_len_rowN]
  have:=digits_len_le (n:=1) (k:=1) (by decide)
  omega
 ·omega
abbrev c55:CC:=(.seq (.reg [⟨some 1,none,.box 41 (.tmp 0)⟩,⟨some 2,none,.mv (.const (.slice none 0 0))⟩]) (.seq (.seq (.reg [⟨some 3,none,.faddr 2 (.tmp 1)⟩,⟨some 4,none,.load 1 false (.tmp 3)⟩,⟨some 5,none,.callf (.func 83) [(.tmp 4)]⟩,⟨some 6,none,.bin .eql (.tmp 5) (.const (.int .i64 (0)))⟩]) (.cond (.tmp 6) (.seq (.reg [⟨some 7,none,.callf (.func 49) [(.const (.int .u64 (1)))]⟩,⟨some 2,none,.mv (.tmp 7)⟩]) .ret) .skip)) (.seq (.reg [⟨some 8,none,.faddr 2 (.tmp 1)⟩,⟨some 9,none,.load 1 false (.tmp 8)⟩,⟨some 2,none,.mv (.tmp 9)⟩]) .ret)))
theorem cc55:ccode Try.prog [] (Try.f55.body.getD .skip) = some c55:=by kernel_rfl
theorem body55:Try.f55.body = some (Try.f55.body.getD .skip):=rfl
theorem den_C (r:RR) (h:(osl r.den).length <= 1000000000):PureC Try.prog 55 [aR r] (.ret (aN (denR r.den))):=by
 obtain ⟨m,hm,hb⟩:=bits_C r.den h
 have hof:=of_C 1 (by decide)
 unfold denR
 by_cases h0:r.den.val = 0
 ·have hm0:=hm.2 h0
  rw [if_pos h0]
  refine pureC_of (rs:=[(RV.tmp 2)]) Try.func55 (fun a w=>Try.call55 a w) body55 cc55 (by kernel_rfl) ?_
  rw [Try.ntmps55]
  simp only [frs,nA,nS]
  repeat (first | (with_reducible first | refine Way.imp ?_ | refine blk_o rfl ?_) | ((with_reducible refine WayR.imp (fun K hK=>?_));simp (disch:=first | omega | (simp only [dls];omega)) only [std,reduceIte,reduceCtorEq,iT,nA,nS,nM,iA,iS,iM,iN,fU,rawZ_minus,rawZ_size];subst hK) | refine zcA (hb) rfl rfl rfl ?_ | refine zcA (hof) rfl rfl rfl ?_)
  exact ⟨_,rfl,rfl⟩
 ·have hm0:m ≠ 0:=fun e=>h0 (hm.1 e)
  rw [if_neg h0]
  refine pureC_of (rs:=[(RV.tmp 2)]) Try.func55 (fun a w=>Try.call55 a w) body55 cc55 (by kernel_rfl) ?_
  rw [Try.ntmps55]
  simp only [frs,nA,nS]
  repeat (first | (with_reducible first | refine Way.imp ?_ | refine blk_o rfl ?_) | ((with_reducible refine WayR.imp (fun K hK=>?_));simp (disch:=first | omega | (simp only [dls];omega)) only [std,reduceIte,reduceCtorEq,iT,nA,nS,nM,iA,iS,iM,iN,fU,rawZ_minus,rawZ_size];subst hK) | refine zcA (hb) rfl rfl rfl ?_)
  exact ⟨_,rfl,rfl⟩
theorem make_z (w:RI) (D:Nat) (hD:D ≠ 0):RI.val ⟨w.minus,rowN (w.size.val / Nat.gcd w.size.val D)⟩ = (mkRat w.val D).num:=by
 rw [ri_mk,rowN_val,Rat.num_mkRat,if_neg hD,ri_abs,Nat.gcd_comm D]
 have hg:((Nat.gcd w.size.val D:Nat):Int) ∣ (w.size.val:Int):=by exact_mod_cast Nat.gcd_dvd_left _ _
 unfold RI.val
 cases w.minus
 ·simp
 ·simp only [if_true]
  rw [Int.neg_ediv_of_dvd hg]
  simp
abbrev c47:CC:=(.seq (.reg [⟨some 2,none,.box 39 (.tmp 0)⟩,⟨some 4,none,.new 41 [(.bool false),(.slice none 0 0),(.slice none 0 0)]⟩]) (.seq (.reg [⟨some 12,none,.mv (.tmp 1)⟩,⟨some 13,none,.build [(.bool false),(.slice none 0 0),(.slice none 0 0)] [(2,(1,(.tmp 12)))]⟩,⟨some 14,none,.callf (.func 55) [(.tmp 13)]⟩,⟨some 1,none,.mv (.tmp 14)⟩]) (.seq (.reg [⟨some 15,none,.faddr 1 (.tmp 2)⟩,⟨some 16,none,.load 1 false (.tmp 15)⟩,⟨some 17,none,.mv (.tmp 1)⟩,⟨some 18,none,.callf (.func 77) [(.tmp 16),(.tmp 17)]⟩,⟨some 5,none,.mv (.tmp 18)⟩]) (.seq (.reg [⟨some 20,none,.faddr 1 (.tmp 2)⟩,⟨some 21,none,.load 1 false (.tmp 20)⟩,⟨some 22,none,.mv (.tmp 5)⟩,⟨some 23,none,.callf (.func 78) [(.tmp 21),(.tmp 22)]⟩,⟨some 19,none,.mv (.tmp 23)⟩,⟨some 24,none,.ext (.tmp 19) 0⟩,⟨some 25,none,.ext (.tmp 19) 1⟩,⟨some 26,none,.ext (.tmp 19) 2⟩,⟨some 6,none,.mv (.tmp 24)⟩,⟨some 7,none,.mv (.tmp 25)⟩,⟨some 8,none,.mv (.tmp 26)⟩]) (.seq (.reg [⟨some 28,none,.mv (.tmp 1)⟩,⟨some 29,none,.mv (.tmp 5)⟩,⟨some 30,none,.callf (.func 78) [(.tmp 28),(.tmp 29)]⟩,⟨some 27,none,.mv (.tmp 30)⟩,⟨some 31,none,.ext (.tmp 27) 0⟩,⟨some 32,none,.ext (.tmp 27) 1⟩,⟨some 33,none,.ext (.tmp 27) 2⟩,⟨some 9,none,.mv (.tmp 31)⟩,⟨some 10,none,.mv (.tmp 32)⟩,⟨some 11,none,.mv (.tmp 33)⟩]) (.seq (.reg [⟨some 34,none,.faddr 0 (.tmp 2)⟩,⟨some 35,none,.load 1 false (.tmp 34)⟩,⟨some 36,none,.mv (.tmp 6)⟩,⟨some 37,none,.callf (.func 79) [(.tmp 35),(.tmp 36)]⟩,⟨some 38,none,.mv (.tmp 9)⟩,⟨some 39,none,.build [(.bool false),(.slice none 0 0),(.slice none 0 0)] [(0,(2,(.tmp 37))),(2,(1,(.tmp 38)))]⟩,⟨none,none,.store 3 (.tmp 4) (.tmp 39)⟩]) .ret))))))
theorem cc47:ccode Try.prog [] (Try.f47.body.getD .skip) = some c47:=by kernel_rfl
theorem body47:Try.f47.body = some (Try.f47.body.getD .skip):=rfl
theorem rmake_C (w:RI) (d:Row) (hw:(osl w.size).length <= 40000000) (hd:(osl d).length <= 40000000):PureC Try.prog 47 [aW w,aN d] (.ret (aR (rawQ (mkRat w.val (denR d).val)))):=by
 have hden:=den_C ⟨false,none,d⟩ (by show (osl d).length <= _;omega)
 have hdl:=denR_len d
 have hD:(denR d).val ≠ 0:=by rw [denR_val];split <;> omega
 change PureC _ _ [.agg [.c (.val (.bool false)),.c (.val (.slice none 0 0)),.c (nr d)]] (.ret (aN (denR d))) at hden
 generalize denR d = D at *
 have hg:=gcd_C w.size D (by omega) (by omega) hD
 have hgp:0 < Nat.gcd w.size.val D.val:=Nat.gcd_pos_of_pos_right _ (Nat.pos_of_ne_zero hD)
 have hgl:(digits (Nat.gcd w.size.val D.val)).length <= (osl D).length:=Nat.le_trans (digits_len_mono (Nat.gcd_le_right _ (Nat.pos_of_ne_zero hD))) (row_len_val D)
 have hd1:=divmod_C w.size (rowN (Nat.gcd w.size.val D.val)) (by omega) (by rw [osl_len_rowN];omega) (by rw [rowN_val];omega)
 have hd2:=divmod_C D (rowN (Nat.gcd w.size.val D.val)) (by omega) (by rw [osl_len_rowN];omega) (by rw [rowN_val];omega)
 rw [rowN_val] at hd1 hd2
 have hlq:(digits (w.size.val / Nat.gcd w.size.val D.val)).length <= (osl w.size).length:=Nat.le_trans (digits_len_mono (Nat.div_le_self _ _)) (row_len_val w.size)
 have hmk:=wmake_C w.minus (rowN (w.size.val / Nat.gcd w.size.val D.val)) (by rw [osl_len_rowN];omega)
 rw [make_z w D.val hD] at hmk
 have hq:rawQ (mkRat w.val D.val) = ⟨(rawZ (mkRat w.val D.val).num).minus,(rawZ (mkRat w.val D.val).num).size,rowN (D.val / Nat.gcd w.size.val D.val)⟩:=by
  unfold rawQ rawZ
  rw [make_den _ _ hD,ri_abs]
 rw [hq]
 generalize rawZ (mkRat w.val D.val).num = z at *
 generalize rowN (w.size.val / Nat.gcd w.size.val D.val) = t1 at *
 generalize rowN (D.val / Nat.gcd w.size.val D.val) = t2 at *
 generalize rowN (Nat.gcd w.size.val D.val) = g at *
 generalize (if w.size.val = 0 then (none:Row) else _) = r1 at *
 generalize (if D.val = 0 then (none:Row) else _) = r2 at *
 refine pureC_of (rs:=[(RV.cell 4 3 true)]) Try.func47 (fun a w=>Try.call47 a w) body47 cc47 (by kernel_rfl) ?_
 rw [Try.ntmps47]
 simp only [frs,nA,nS]
 repeat (first | (with_reducible first | refine Way.imp ?_ | refine blk_o rfl ?_) | ((with_reducible refine WayR.imp (fun K hK=>?_));simp (disch:=first | omega | (simp only [dls];omega)) only [std,reduceIte,reduceCtorEq,iT,nA,nS,nM,iA,iS,iM,iN,fU,rawZ_minus,rawZ_size];subst hK) | refine zcA (hden) rfl rfl rfl ?_ | refine zcA (hg) rfl rfl rfl ?_ | refine zcA (hd1) rfl rfl rfl ?_ | refine zcA (hd2) rfl rfl rfl ?_ | refine zcA (hmk) rfl rfl rfl ?_)
 exact ⟨_,rfl,rfl⟩
end Go.Proofs.Ytncgbjhojbnecaa
namespace Go.Proofs.Ytncgbjhojbnecaa
open Go Go.Am Go.Proofs Go.Off
open Nat renaming reduceAdd -> nA,reduceSub -> nS,reduceMul -> nM,reduceBEq -> nB
open Int renaming reduceToNat -> iT,reduceAdd -> iA,reduceSub -> iS,reduceMul -> iM,reduceNeg -> iN
def Fits (r:RR) (L:Nat):Prop:=(osl r.size).length <= L /\ (osl r.den).length <= L
def FitsQ (q:Rat) (L:Nat):Prop:=(digits q.num.natAbs).length <= L /\ (digits q.den).length <= L
theorem fits_rawQ {q:Rat} {L:Nat} (h:FitsQ q L):Fits (rawQ q) L:=h
theorem Fits.mono {r:RR} {L M:Nat} (h:Fits r L) (hm:L <= M):Fits r M:=⟨Nat.le_trans h.1 hm,Nat.le_trans h.2 hm⟩
theorem FitsQ.mono {q:Rat} {L M:Nat} (h:FitsQ q L) (hm:L <= M):FitsQ q M:=⟨Nat.le_trans h.1 hm,Nat.le_trans h.2 hm⟩
theorem fits_mk (n:Int) (d:Nat) (hd:d ≠ 0) {L:Nat} (h1:(digits n.natAbs).length <= L) (h2:(digits d).length <= L):FitsQ (mkRat n d) L:=by
 constructor
 ·rw [make_num _ _ hd];exact Nat.le_trans (digits_len_mono (Nat.div_le_self _ _)) h1
 ·rw [make_den _ _ hd];exact Nat.le_trans (digits_len_mono (Nat.div_le_self _ _)) h2
theorem top_abs (r:RR):r.top.natAbs = r.size.val:=by unfold RR.top;split <;> omega
theorem Fits.top {r:RR} {L:Nat} (h:Fits r L):(digits r.top.natAbs).length <= L:=by rw [top_abs];exact Nat.le_trans (row_len_val _) h.1
theorem Fits.bot {r:RR} {L:Nat} (h:Fits r L) (hL:1 <= L):(digits r.bot).length <= L:=by
 unfold RR.bot;split
 ·have:=digits_len_le (n:=1) (k:=1) (by decide);omega
 ·exact Nat.le_trans (row_len_val _) h.2
theorem Fits.val {r:RR} {L:Nat} (h:Fits r L) (hL:1 <= L):FitsQ r.val L:=fits_mk _ _ r.bot_ne h.top (h.bot hL)
theorem digits_len_mul (a b:Nat):(digits (a * b)).length <= (digits a).length + (digits b).length:=by
 have h1:=val_lt (digits a)
 have h2:=val_lt (digits b)
 rw [val_digits] at h1 h2
 refine digits_len_le ?_
 rw [Nat.pow_add]
 exact Nat.mul_lt_mul'' h1 h2
theorem FitsQ.mul {a b:Rat} {L M:Nat} (h1:FitsQ a L) (h2:FitsQ b M):FitsQ (a * b) (L + M):=by
 rw [Rat.mul_def']
 refine fits_mk _ _ (Nat.mul_ne_zero a.den_nz b.den_nz) ?_ ?_
 ·rw [Int.natAbs_mul];have:=digits_len_mul a.num.natAbs b.num.natAbs;have:=h1.1;have:=h2.1;omega
 ·have:=digits_len_mul a.den b.den;have:=h1.2;have:=h2.2;omega
theorem FitsQ.add {a b:Rat} {L M:Nat} (h1:FitsQ a L) (h2:FitsQ b M):FitsQ (a + b) (2 * (L + M) + 1):=by
 rw [Rat.add_def']
 refine fits_mk _ _ (Nat.mul_ne_zero a.den_nz b.den_nz) ?_ ?_
 ·have e1:=digits_len_mul a.num.natAbs b.den
  have e2:=digits_len_mul b.num.natAbs a.den
  have e3:=digits_len_add (a.num.natAbs * b.den) (b.num.natAbs * a.den)
  have e4:(a.num * b.den + b.num * a.den).natAbs <= a.num.natAbs * b.den + b.num.natAbs * a.den:=by
   have:=Int.natAbs_add_le (a.num * b.den) (b.num * a.den)
   rwa [Int.natAbs_mul,Int.natAbs_mul,Int.natAbs_natCast,Int.natAbs_natCast] at this
  have e5:=digits_len_mono e4
  have:=h1.1;have:=h2.1;have:=h1.2;have:=h2.2;omega
 ·have:=digits_len_mul a.den b.den;have:=h1.2;have:=h2.2;omega
theorem FitsQ.neg {a:Rat} {L:Nat} (h:FitsQ a L):FitsQ (-a) L:=⟨by rw [Rat.neg_num,Int.natAbs_neg];exact h.1,h.2⟩
abbrev c23:CC:=(.seq (.reg [⟨some 1,none,.box 41 (.tmp 0)⟩,⟨some 2,none,.mv (.const (.int .i64 (0)))⟩]) (.seq (.reg [⟨some 3,none,.faddr 0 (.tmp 1)⟩,⟨some 4,none,.load 2 true (.tmp 3)⟩,⟨some 5,none,.callf (.func 59) [(.tmp 4)]⟩,⟨some 2,none,.mv (.tmp 5)⟩]) .ret))
theorem cc23:ccode Try.prog [] (Try.f23.body.getD .skip) = some c23:=by kernel_rfl
theorem body23:Try.f23.body = some (Try.f23.body.getD .skip):=rfl
theorem rsign_C (r:RR) (h:Fits r 1000000000):PureC Try.prog 23 [aR r] (.ret (aI (sgn r.top))):=by
 have hs:=wsign_C (RRnum r) h.1
 rw [num_top] at hs
 generalize sgn r.top = x at *
 refine pureC_of (rs:=[(RV.tmp 2)]) Try.func23 (fun a w=>Try.call23 a w) body23 cc23 (by kernel_rfl) ?_
 rw [Try.ntmps23]
 simp only [frs,nA,nS]
 repeat (first | (with_reducible first | refine Way.imp ?_ | refine blk_o rfl ?_) | ((with_reducible refine WayR.imp (fun K hK=>?_));simp (disch:=first | omega | (simp only [dls];omega)) only [std,reduceIte,reduceCtorEq,iT,nA,nS,nM,iA,iS,iM,iN,fU,rawZ_minus,rawZ_size];subst hK) | refine zcA (hs) rfl rfl rfl ?_)
 exact ⟨_,rfl,rfl⟩
abbrev c51:CC:=(.seq (.reg [⟨some 2,none,.box 41 (.tmp 0)⟩,⟨some 3,none,.box 41 (.tmp 1)⟩,⟨some 4,none,.new 39 [(.bool false),(.slice none 0 0)]⟩]) (.seq (.reg [⟨some 5,none,.faddr 0 (.tmp 2)⟩,⟨some 6,none,.load 2 true (.tmp 5)⟩,⟨some 7,none,.load 3 true (.tmp 3)⟩,⟨some 8,none,.callf (.func 55) [(.tmp 7)]⟩,⟨some 9,none,.callf (.func 79) [(.const (.bool false)),(.tmp 8)]⟩,⟨some 10,none,.callf (.func 53) [(.tmp 6),(.tmp 9)]⟩,⟨none,none,.store 2 (.tmp 4) (.tmp 10)⟩]) .ret))
theorem cc51:ccode Try.prog [] (Try.f51.body.getD .skip) = some c51:=by kernel_rfl
theorem body51:Try.f51.body = some (Try.f51.body.getD .skip):=rfl
theorem over_C (a b:RR) (ha:Fits a 90000000) (hb:Fits b 90000000):PureC Try.prog 51 [aR a,aR b] (.ret (aW (rawZ (a.top * b.bot)))):=by
 have hden:=den_C b (by have:=hb.2;omega)
 have hdl:=denR_len b.den
 have hl:=hb.2
 have hmk:=wmake_C false (denR b.den) (by omega)
 rw [ri_mk,if_neg (by decide),denR_bot] at hmk
 have hmul:=wmul_C (RRnum a) (rawZ b.bot) (by have:=ha.1;show (osl a.size).length <= _;omega) (by
  rw [rawZ_size,osl_len_rowN,Int.natAbs_natCast]
  have:=hb.bot (by decide)
  omega)
 rw [num_top,rawZ_val] at hmul
 generalize rawZ (b.bot:Int) = t at *
 generalize rawZ (a.top * b.bot) = u at *
 generalize denR b.den = d at *
 refine pureC_of (rs:=[(RV.cell 4 2 true)]) Try.func51 (fun a w=>Try.call51 a w) body51 cc51 (by kernel_rfl) ?_
 rw [Try.ntmps51]
 simp only [frs,nA,nS]
 repeat (first | (with_reducible first | refine Way.imp ?_ | refine blk_o rfl ?_) | ((with_reducible refine WayR.imp (fun K hK=>?_));simp (disch:=first | omega | (simp only [dls];omega)) only [std,reduceIte,reduceCtorEq,iT,nA,nS,nM,iA,iS,iM,iN,fU,rawZ_minus,rawZ_size];subst hK) | refine zcA (hden) rfl rfl rfl ?_ | refine zcA (hmk) rfl rfl rfl ?_ | refine zcA (hmul) rfl rfl rfl ?_)
 exact ⟨_,rfl,rfl⟩
abbrev c17:CC:=(.seq (.reg [⟨some 2,none,.box 41 (.tmp 0)⟩,⟨some 3,none,.box 41 (.tmp 1)⟩,⟨some 4,none,.mv (.const (.int .i64 (0)))⟩]) (.seq (.reg [⟨some 5,none,.load 3 true (.tmp 2)⟩,⟨some 6,none,.load 3 true (.tmp 3)⟩,⟨some 7,none,.callf (.func 51) [(.tmp 5),(.tmp 6)]⟩,⟨some 8,none,.load 3 true (.tmp 3)⟩,⟨some 9,none,.load 3 true (.tmp 2)⟩,⟨some 10,none,.callf (.func 51) [(.tmp 8),(.tmp 9)]⟩,⟨some 11,none,.callf (.func 50) [(.tmp 7),(.tmp 10)]⟩,⟨some 4,none,.mv (.tmp 11)⟩]) .ret))
theorem cc17:ccode Try.prog [] (Try.f17.body.getD .skip) = some c17:=by kernel_rfl
theorem body17:Try.f17.body = some (Try.f17.body.getD .skip):=rfl
theorem rcompare_C (a b:RR) (ha:Fits a 90000000) (hb:Fits b 90000000):PureC Try.prog 17 [aR a,aR b] (.ret (aI (cmpQ a.val b.val))):=by
 have h1:=over_C a b ha hb
 have h2:=over_C b a hb ha
 have l1:=digits_len_mul a.top.natAbs b.bot
 have l2:=digits_len_mul b.top.natAbs a.bot
 have:=ha.top;have:=hb.top;have:=ha.bot (by decide);have:=hb.bot (by decide)
 have hc:=wcompare_C (rawZ (a.top * b.bot)) (rawZ (b.top * a.bot)) (by rw [rawZ_size,osl_len_rowN,Int.natAbs_mul,Int.natAbs_natCast];omega) (by rw [rawZ_size,osl_len_rowN,Int.natAbs_mul,Int.natAbs_natCast];omega)
 rw [rawZ_val,rawZ_val] at hc
 rw [show cmpInt (a.top * b.bot) (b.top * a.bot) = cmpQ a.val b.val from cmp_mkRat a.bot_ne b.bot_ne] at hc
 generalize cmpQ a.val b.val = x at *
 generalize rawZ (a.top * b.bot) = u at *
 generalize rawZ (b.top * a.bot) = v at *
 refine pureC_of (rs:=[(RV.tmp 4)]) Try.func17 (fun a w=>Try.call17 a w) body17 cc17 (by kernel_rfl) ?_
 rw [Try.ntmps17]
 simp only [frs,nA,nS]
 repeat (first | (with_reducible first | refine Way.imp ?_ | refine blk_o rfl ?_) | ((with_reducible refine WayR.imp (fun K hK=>?_));simp (disch:=first | omega | (simp only [dls];omega)) only [std,reduceIte,reduceCtorEq,iT,nA,nS,nM,iA,iS,iM,iN,fU,rawZ_minus,rawZ_size];subst hK) | refine zcA (h1) rfl rfl rfl ?_ | refine zcA (h2) rfl rfl rfl ?_ | refine zcA (hc) rfl rfl rfl ?_)
 exact ⟨_,rfl,rfl⟩
abbrev c25:CC:=(.seq (.reg [⟨some 2,none,.box 41 (.tmp 0)⟩,⟨some 3,none,.box 41 (.tmp 1)⟩,⟨some 4,none,.new 41 [(.bool false),(.slice none 0 0),(.slice none 0 0)]⟩]) (.seq (.reg [⟨some 5,none,.load 3 true (.tmp 2)⟩,⟨some 6,none,.load 3 true (.tmp 3)⟩,⟨some 7,none,.callf (.func 51) [(.tmp 5),(.tmp 6)]⟩,⟨some 8,none,.load 3 true (.tmp 3)⟩,⟨some 9,none,.load 3 true (.tmp 2)⟩,⟨some 10,none,.callf (.func 51) [(.tmp 8),(.tmp 9)]⟩,⟨some 11,none,.callf (.func 60) [(.tmp 7),(.tmp 10)]⟩,⟨some 12,none,.load 3 true (.tmp 2)⟩,⟨some 13,none,.callf (.func 55) [(.tmp 12)]⟩,⟨some 14,none,.load 3 true (.tmp 3)⟩,⟨some 15,none,.callf (.func 55) [(.tmp 14)]⟩,⟨some 16,none,.callf (.func 54) [(.tmp 13),(.tmp 15)]⟩,⟨some 17,none,.callf (.func 47) [(.tmp 11),(.tmp 16)]⟩,⟨none,none,.store 3 (.tmp 4) (.tmp 17)⟩]) .ret))
theorem cc25:ccode Try.prog [] (Try.f25.body.getD .skip) = some c25:=by kernel_rfl
theorem body25:Try.f25.body = some (Try.f25.body.getD .skip):=rfl
theorem radd_C (a b:RR) (ha:Fits a 9000000) (hb:Fits b 9000000):PureC Try.prog 25 [aR a,aR b] (.ret (aR (rawQ (a.val + b.val)))):=by
 have h1:=over_C a b (ha.mono (by decide)) (hb.mono (by decide))
 have h2:=over_C b a (hb.mono (by decide)) (ha.mono (by decide))
 have l1:=digits_len_mul a.top.natAbs b.bot
 have l2:=digits_len_mul b.top.natAbs a.bot
 have l3:=digits_len_mul a.bot b.bot
 have l4:=digits_len_add (a.top.natAbs * b.bot) (b.top.natAbs * a.bot)
 have l5:(a.top * b.bot + b.top * a.bot).natAbs <= a.top.natAbs * b.bot + b.top.natAbs * a.bot:=by
  have:=Int.natAbs_add_le (a.top * b.bot) (b.top * a.bot)
  rwa [Int.natAbs_mul,Int.natAbs_mul,Int.natAbs_natCast,Int.natAbs_natCast] at this
 have l6:=digits_len_mono l5
 have:=ha.top;have:=hb.top;have:=ha.bot (by decide);have:=hb.bot (by decide)
 have hs:=wadd_C (rawZ (a.top * b.bot)) (rawZ (b.top * a.bot)) (by rw [rawZ_size,osl_len_rowN,Int.natAbs_mul,Int.natAbs_natCast];omega) (by rw [rawZ_size,osl_len_rowN,Int.natAbs_mul,Int.natAbs_natCast];omega)
 rw [rawZ_val,rawZ_val] at hs
 have hd1:=den_C a (by have:=ha.2;omega)
 have hd2:=den_C b (by have:=hb.2;omega)
 have hn1:=denR_len a.den
 have hn2:=denR_len b.den
 have hf1:=ha.2
 have hf2:=hb.2
 have hm:=mul_C (denR a.den) (denR b.den) (by omega) (by omega)
 rw [denR_bot,denR_bot] at hm
 have hbb:a.bot * b.bot ≠ 0:=Nat.mul_ne_zero a.bot_ne b.bot_ne
 have hmk:=rmake_C (rawZ (a.top * b.bot + b.top * a.bot)) (rowN (a.bot * b.bot)) (by rw [rawZ_size,osl_len_rowN];omega) (by rw [osl_len_rowN];omega)
 rw [rawZ_val,denR_val,rowN_val,if_neg hbb,<- Rat.mkRat_add_mkRat _ _ a.bot_ne b.bot_ne] at hmk
 change PureC _ _ _ (.ret (aR (rawQ (a.val + b.val)))) at hmk
 generalize rawQ (a.val + b.val) = r at *
 generalize rawZ (a.top * b.bot + b.top * a.bot) = t at *
 generalize rawZ (a.top * b.bot) = u at *
 generalize rawZ (b.top * a.bot) = v at *
 generalize rowN (a.bot * b.bot) = w at *
 generalize denR a.den = x at *
 generalize denR b.den = y at *
 refine pureC_of (rs:=[(RV.cell 4 3 true)]) Try.func25 (fun a w=>Try.call25 a w) body25 cc25 (by kernel_rfl) ?_
 rw [Try.ntmps25]
 simp only [frs,nA,nS]
 repeat (first | (with_reducible first | refine Way.imp ?_ | refine blk_o rfl ?_) | ((with_reducible refine WayR.imp (fun K hK=>?_));simp (disch:=first | omega | (simp only [dls];omega)) only [std,reduceIte,reduceCtorEq,iT,nA,nS,nM,iA,iS,iM,iN,fU,rawZ_minus,rawZ_size];subst hK) | refine zcA (h1) rfl rfl rfl ?_ | refine zcA (h2) rfl rfl rfl ?_ | refine zcA (hs) rfl rfl rfl ?_ | refine zcA (hd1) rfl rfl rfl ?_ | refine zcA (hd2) rfl rfl rfl ?_ | refine zcA (hm) rfl rfl rfl ?_ | refine zcA (hmk) rfl rfl rfl ?_)
 exact ⟨_,rfl,rfl⟩
abbrev c19:CC:=(.seq (.reg [⟨some 2,none,.box 41 (.tmp 0)⟩,⟨some 3,none,.box 41 (.tmp 1)⟩,⟨some 4,none,.new 41 [(.bool false),(.slice none 0 0),(.slice none 0 0)]⟩]) (.seq (.reg [⟨some 5,none,.faddr 0 (.tmp 2)⟩,⟨some 6,none,.load 2 true (.tmp 5)⟩,⟨some 7,none,.faddr 0 (.tmp 3)⟩,⟨some 8,none,.load 2 true (.tmp 7)⟩,⟨some 9,none,.callf (.func 53) [(.tmp 6),(.tmp 8)]⟩,⟨some 10,none,.load 3 true (.tmp 2)⟩,⟨some 11,none,.callf (.func 55) [(.tmp 10)]⟩,⟨some 12,none,.load 3 true (.tmp 3)⟩,⟨some 13,none,.callf (.func 55) [(.tmp 12)]⟩,⟨some 14,none,.callf (.func 54) [(.tmp 11),(.tmp 13)]⟩,⟨some 15,none,.callf (.func 47) [(.tmp 9),(.tmp 14)]⟩,⟨none,none,.store 3 (.tmp 4) (.tmp 15)⟩]) .ret))
theorem cc19:ccode Try.prog [] (Try.f19.body.getD .skip) = some c19:=by kernel_rfl
theorem body19:Try.f19.body = some (Try.f19.body.getD .skip):=rfl
theorem rmul_C (a b:RR) (ha:Fits a 9000000) (hb:Fits b 9000000):PureC Try.prog 19 [aR a,aR b] (.ret (aR (rawQ (a.val * b.val)))):=by
 have l1:=digits_len_mul a.top.natAbs b.top.natAbs
 have l3:=digits_len_mul a.bot b.bot
 have:=ha.top;have:=hb.top;have:=ha.bot (by decide);have:=hb.bot (by decide)
 have hf1:=ha.2
 have hf2:=hb.2
 have hf3:=ha.1
 have hf4:=hb.1
 have hs:=wmul_C (RRnum a) (RRnum b) (by show (osl a.size).length <= _;omega) (by show (osl b.size).length <= _;omega)
 rw [num_top,num_top] at hs
 have hd1:=den_C a (by omega)
 have hd2:=den_C b (by omega)
 have hn1:=denR_len a.den
 have hn2:=denR_len b.den
 have hm:=mul_C (denR a.den) (denR b.den) (by omega) (by omega)
 rw [denR_bot,denR_bot] at hm
 have hbb:a.bot * b.bot ≠ 0:=Nat.mul_ne_zero a.bot_ne b.bot_ne
 have hmk:=rmake_C (rawZ (a.top * b.top)) (rowN (a.bot * b.bot)) (by rw [rawZ_size,osl_len_rowN,Int.natAbs_mul];omega) (by rw [osl_len_rowN];omega)
 rw [rawZ_val,denR_val,rowN_val,if_neg hbb,<- Rat.mkRat_mul_mkRat] at hmk
 change PureC _ _ _ (.ret (aR (rawQ (a.val * b.val)))) at hmk
 generalize rawQ (a.val * b.val) = r at *
 generalize rawZ (a.top * b.top) = t at *
 generalize rowN (a.bot * b.bot) = w at *
 generalize denR a.den = x at *
 generalize denR b.den = y at *
 refine pureC_of (rs:=[(RV.cell 4 3 true)]) Try.func19 (fun a w=>Try.call19 a w) body19 cc19 (by kernel_rfl) ?_
 rw [Try.ntmps19]
 simp only [frs,nA,nS]
 repeat (first | (with_reducible first | refine Way.imp ?_ | refine blk_o rfl ?_) | ((with_reducible refine WayR.imp (fun K hK=>?_));simp (disch:=first | omega | (simp only [dls];omega)) only [std,reduceIte,reduceCtorEq,iT,nA,nS,nM,iA,iS,iM,iN,fU,rawZ_minus,rawZ_size];subst hK) | refine zcA (hs) rfl rfl rfl ?_ | refine zcA (hd1) rfl rfl rfl ?_ | refine zcA (hd2) rfl rfl rfl ?_ | refine zcA (hm) rfl rfl rfl ?_ | refine zcA (hmk) rfl rfl rfl ?_)
 exact ⟨_,rfl,rfl⟩
end Go.Proofs.Ytncgbjhojbnecaa
namespace Go.Proofs.Ytncgbjhojbnecaa
open Go Go.Am Go.Proofs Go.Off
open Nat renaming reduceAdd -> nA,reduceSub -> nS,reduceMul -> nM,reduceBEq -> nB
open Int renaming reduceToNat -> iT,reduceAdd -> iA,reduceSub -> iS,reduceMul -> iM,reduceNeg -> iN
theorem denR_rowN {n:Nat} (h:n ≠ 0):denR (rowN n) = rowN n:=by unfold denR;rw [rowN_val,if_neg h]
theorem len1:(digits 1).length = 1:=by rw [digits_pos (by decide),show 1 / 4294967296 = 0 from rfl,digits_zero];rfl
theorem len_int (n:Int) (h1 : -9223372036854775808 <= n) (h2:n <= 9223372036854775807):(digits n.natAbs).length <= 2:=digits_len_le (by simp;omega)
theorem fits_int (n:Int) (h1 : -9223372036854775808 <= n) (h2:n <= 9223372036854775807):FitsQ (n:Rat) 2:=by
 constructor
 ·rw [Rat.num_intCast];exact len_int n h1 h2
 ·rw [Rat.den_intCast,len1];decide
abbrev c15:CC:=(.seq (.reg [⟨some 2,none,.new 41 [(.bool false),(.slice none 0 0),(.slice none 0 0)]⟩]) (.seq (.reg [⟨some 3,none,.mv (.tmp 0)⟩,⟨some 4,none,.callf (.func 48) [(.tmp 3)]⟩,⟨some 5,none,.callf (.func 49) [(.const (.int .u64 (1)))]⟩,⟨some 6,none,.callf (.func 47) [(.tmp 4),(.tmp 5)]⟩,⟨none,none,.store 3 (.tmp 2) (.tmp 6)⟩]) .ret))
theorem cc15:ccode Try.prog [] (Try.f15.body.getD .skip) = some c15:=by kernel_rfl
theorem body15:Try.f15.body = some (Try.f15.body.getD .skip):=rfl
theorem rint_C (n:Int) (h1 : -9223372036854775808 <= n) (h2:n <= 9223372036854775807):PureC Try.prog 15 [aI n] (.ret (aR (rawQ (n:Rat)))):=by
 have hw:=wof_C n h1 h2
 have hof:=of_C 1 (by decide)
 have hl:=len_int n h1 h2
 have hmk:=rmake_C (rawZ n) (rowN 1) (by rw [rawZ_size,osl_len_rowN];omega) (by rw [osl_len_rowN,len1];decide)
 rw [rawZ_val,denR_val,rowN_val,if_neg (by decide),show mkRat n 1 = (n:Rat) from by rw [Rat.mkRat_eq_div];grind] at hmk
 generalize rawQ (n:Rat) = r at *
 generalize rawZ n = z at *
 generalize rowN 1 = o at *
 refine pureC_of (rs:=[(RV.cell 2 3 true)]) Try.func15 (fun a w=>Try.call15 a w) body15 cc15 (by kernel_rfl) ?_
 rw [Try.ntmps15]
 simp only [frs,nA,nS]
 repeat (first | (with_reducible first | refine Way.imp ?_ | refine blk_o rfl ?_) | ((with_reducible refine WayR.imp (fun K hK=>?_));simp (disch:=first | omega | (simp only [dls];omega)) only [std,reduceIte,reduceCtorEq,iT,nA,nS,nM,iA,iS,iM,iN,fU,rawZ_minus,rawZ_size];subst hK) | refine zcA (hw) rfl rfl rfl ?_ | refine zcA (hof) rfl rfl rfl ?_ | refine zcA (hmk) rfl rfl rfl ?_)
 exact ⟨_,rfl,rfl⟩
abbrev c72:CC:=(.seq (.reg [⟨some 1,none,.box 41 (.tmp 0)⟩,⟨some 2,none,.new 41 [(.bool false),(.slice none 0 0),(.slice none 0 0)]⟩]) (.seq (.reg [⟨some 3,none,.faddr 0 (.tmp 1)⟩,⟨some 4,none,.load 2 true (.tmp 3)⟩,⟨some 5,none,.callf (.func 91) [(.tmp 4)]⟩,⟨some 6,none,.faddr 2 (.tmp 1)⟩,⟨some 7,none,.load 1 false (.tmp 6)⟩,⟨some 8,none,.callf (.func 47) [(.tmp 5),(.tmp 7)]⟩,⟨none,none,.store 3 (.tmp 2) (.tmp 8)⟩]) .ret))
theorem cc72:ccode Try.prog [] (Try.f72.body.getD .skip) = some c72:=by kernel_rfl
theorem body72:Try.f72.body = some (Try.f72.body.getD .skip):=rfl
theorem rneg_C (a:RR) (ha:Fits a 9000000):PureC Try.prog 72 [aR a] (.ret (aR (rawQ (-a.val)))):=by
 have hf1:=ha.1
 have hf2:=ha.2
 have hn:=wneg_C (RRnum a) (by show (osl a.size).length <= _;omega)
 rw [num_top] at hn
 have ht:=ha.top
 have hmk:=rmake_C (rawZ (-a.top)) a.den (by rw [rawZ_size,osl_len_rowN,Int.natAbs_neg];omega) (by omega)
 rw [rawZ_val,denR_bot,show mkRat (-a.top) a.bot = -a.val from by unfold RR.val;rw [Rat.neg_mkRat]] at hmk
 generalize rawQ (-a.val) = r at *
 generalize rawZ (-a.top) = z at *
 refine pureC_of (rs:=[(RV.cell 2 3 true)]) Try.func72 (fun a w=>Try.call72 a w) body72 cc72 (by kernel_rfl) ?_
 rw [Try.ntmps72]
 simp only [frs,nA,nS]
 repeat (first | (with_reducible first | refine Way.imp ?_ | refine blk_o rfl ?_) | ((with_reducible refine WayR.imp (fun K hK=>?_));simp (disch:=first | omega | (simp only [dls];omega)) only [std,reduceIte,reduceCtorEq,iT,nA,nS,nM,iA,iS,iM,iN,fU,rawZ_minus,rawZ_size];subst hK) | refine zcA (hn) rfl rfl rfl ?_ | refine zcA (hmk) rfl rfl rfl ?_)
 exact ⟨_,rfl,rfl⟩
end Go.Proofs.Ytncgbjhojbnecaa
