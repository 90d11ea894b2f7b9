/- Walks of whole: Make, Of, Right, Sign, Neg, Compare, Add, Mul. -/
import Derived.Test.YtncgbjhojbnecaaGreatRows
import Derived.RangeFuncBox
import Derived.RangeFuncBound
import Derived.Shelf.Abstract
import Derived.WalkKit
import Derived.OwnWalkIn
import Derived.TacticsInMore
import Derived.LoopNIn
import Derived.LoopIn
import Derived.Test.YtncgbjhojbnecaaGreatProg
import Derived.Test.YtncgbjhojbnecaaGreatU5
import Derived.Test.YtncgbjhojbnecaaGreatU6
import Derived.Test.YtncgbjhojbnecaaGreatU8
set_option linter.unusedSimpArgs false
set_option linter.unusedVariables false
set_option linter.unnecessarySimpa false
set_option maxRecDepth 100000
set_option maxHeartbeats 4000000
open Bool renaming false -> TA, true -> SA, or_true -> KA, not_false -> LA, and_eq_true -> JA
open Option renaming none -> QA, some -> PA
open Go.Am.Way renaming imp -> W8
open Go.Am.WayR renaming imp -> X8
open Nat renaming le_trans -> GA, lt_of_lt_of_le -> HA, zero_le -> fN, le_refl -> EA
open List renaming getD_eq_getElem?_getD -> bA, getElem?_eq_getElem -> aA, set_cons_succ -> lA, set_cons_zero -> mA, length_nil -> pA, length_cons -> oA, nil_append -> qA, cons_append -> rA, getElem_mem -> gA, length_map -> eA, isEmpty_cons -> kA, mem_range -> zA, getElem?_eq_some_iff -> dA, replicate -> jA, map_map -> uA
open Int renaming toNat_of_nonneg -> OA
namespace Go.Proofs.YtncgbjhojbnecaaGreat
open Go Go.Am Go.Proofs Go.Off
open Nat renaming reduceAdd -> nA,reduceSub -> nS,reduceMul -> nM,reduceBEq -> nB
open Int renaming reduceToNat -> iT,reduceAdd -> iA,reduceSub -> iS,reduceMul -> iM,reduceNeg -> iN
abbrev aW (w:RI):AV:=.agg [.c (.val (.bool w.minus)),.c (nr w.size)]
theorem rawZ_make (m:Bool) (s:iG):MC (RI.val ⟨m,s⟩) = ⟨m && decide (0 < s.val),iC s.val⟩:=by
 unfold MC RI.val
 cases m
 ·simp
 ·simp
theorem rJ (a:RI):a.val.natAbs = a.size.val:=by unfold RI.val;split <;> omega
theorem UB (z:Int):(MC z).minus = decide (z < 0):=rfl
theorem HB (z:Int):(MC z).size = iC z.natAbs:=rfl
def dE (z:Int):Int:=if z < 0 then -1 else if z = 0 then 0 else 1
def yK (x y:Int):Int:=if x < y then -1 else if y < x then 1 else 0
theorem iI (z:Int):(dE z < 0) = (z < 0):=by unfold dE;split <;> rename_i h <;> simp [h];split <;> simp
theorem WF (x y:Int):dE x * dE y = dE (x * y):=by
 unfold dE
 rcases Int.lt_trichotomy x 0 with hx | hx | hx <;> rcases Int.lt_trichotomy y 0 with hy | hy | hy
 ·have:=Int.mul_pos_of_neg_of_neg hx hy
  simp [hx,hy,show ¬ x * y < 0 by omega,show ¬ x * y = 0 by omega]
 ·simp [hx,hy]
 ·have:=Int.mul_neg_of_neg_of_pos hx hy
  simp [hx,this,show ¬ y < 0 by omega,show ¬ y = 0 by omega]
 ·simp [hx]
 ·simp [hx]
 ·simp [hx]
 ·have:=Int.mul_neg_of_pos_of_neg hx hy
  simp [hy,this,show ¬ x < 0 by omega,show ¬ x = 0 by omega]
 ·simp [hy]
 ·have:=Int.mul_pos hx hy
  simp [show ¬ x < 0 by omega,show ¬ x = 0 by omega,show ¬ y < 0 by omega,show ¬ y = 0 by omega,show ¬ x * y < 0 by omega,show ¬ x * y = 0 by omega]
theorem eN (z:Int) : -1 <= dE z /\ dE z <= 1:=by unfold dE;split <;> (try split) <;> omega
theorem len_abs (z:Int):(UA (iC z.natAbs)).length = 0 ↔ z = 0:=by rw [xD,List.length_eq_zero_iff,cG,Int.natAbs_eq_zero]
theorem ri_eta (a:RI):(⟨a.minus,a.size⟩:RI) = a:=rfl
abbrev c89:CC:=(.seq (.reg [(oD 4 (.new 46 [(.bool TA),(.slice QA 0 0)]))]) (.seq (.reg [(mV 5 1),(oD 6 (.callf (.func 125) [(tP 5),(.const (.int .i64 (0)))])),(mV 1 6)]) (.seq (.reg [(mV 7 0),(mV 8 7),(gM 9 8 SA 1),(oG 10 8 SA (.len TA (tP 9))),(oG 11 8 SA (.bin .gtr (tP 10) (.const (.int .i64 (0))))),(pF 12 8 11),(mV 13 1),(oD 14 (.build [(.bool TA),(.slice QA 0 0)] [(0,(1,(tP 12))),(1,(1,(tP 13)))])),(sT 2 4 14)]) .ret)))
theorem cc89:ZA Tryz.prog [] (Tryz.f89.body.getD .skip) = PA c89:=by kernel_rfl
theorem body89:Tryz.f89.body = PA (Tryz.f89.body.getD .skip):=rfl
theorem WG (m:Bool) (s:iG) (hs:(UA s).length <= 1000000000):YA Tryz.prog 89 [aB m,aN s] (.ret (aW (MC (RI.val ⟨m,s⟩)))):=by
 have hsh:=BT s 0 hs (by decide)
 rw [Nat.pow_zero,Nat.mul_one] at hsh
 change YA _ _ [aN s,aI 0] _ at hsh
 rw [rawZ_make]
 have hl:(UA (iC s.val)).length = 0 ↔ s.val = 0:=by rw [xD,List.length_eq_zero_iff,cG]
 by_cases h0:s.val = 0
 ·have hl2:=hl.2 h0
  rw [show decide (0 < s.val) = TA from by simp [h0],Bool.and_false]
  generalize iC s.val = t at *
  cases m
  ·refine WA (rs:=[(RV.cell 4 2 SA)]) Tryz.func89 (fun a w=>Tryz.call89 a w) body89 cc89 (by kernel_rfl) ?_
   rw [Tryz.ntmps89]
   simp only [pC,nA,nS]
   repeat (first | (with_reducible first | refine W8 ?_ | refine VA rfl ?_) | ((with_reducible refine X8 fun K hK=>?_);simp (disch:=first | omega | simp only [sB];omega) only [qB,reduceIte,reduceCtorEq,iT,nA,nS,nM,iA,iS,iM,iN,fU,UB,HB];subst hK) | refine KB (hsh) rfl rfl rfl ?_)
   exact ⟨_,rfl,rfl⟩
  ·refine WA (rs:=[(RV.cell 4 2 SA)]) Tryz.func89 (fun a w=>Tryz.call89 a w) body89 cc89 (by kernel_rfl) ?_
   rw [Tryz.ntmps89]
   simp only [pC,nA,nS]
   repeat (first | (with_reducible first | refine W8 ?_ | refine VA rfl ?_) | ((with_reducible refine X8 fun K hK=>?_);simp (disch:=first | omega | simp only [sB];omega) only [qB,reduceIte,reduceCtorEq,iT,nA,nS,nM,iA,iS,iM,iN,fU,UB,HB];subst hK) | refine KB (hsh) rfl rfl rfl ?_)
   exact ⟨_,rfl,rfl⟩
 ·have hl2:(UA (iC s.val)).length ≠ 0:=fun e=>h0 (hl.1 e)
  rw [show decide (0 < s.val) = SA from by simp;omega,Bool.and_true]
  generalize iC s.val = t at *
  cases m
  ·refine WA (rs:=[(RV.cell 4 2 SA)]) Tryz.func89 (fun a w=>Tryz.call89 a w) body89 cc89 (by kernel_rfl) ?_
   rw [Tryz.ntmps89]
   simp only [pC,nA,nS]
   repeat (first | (with_reducible first | refine W8 ?_ | refine VA rfl ?_) | ((with_reducible refine X8 fun K hK=>?_);simp (disch:=first | omega | simp only [sB];omega) only [qB,reduceIte,reduceCtorEq,iT,nA,nS,nM,iA,iS,iM,iN,fU,UB,HB];subst hK) | refine KB (hsh) rfl rfl rfl ?_)
   exact ⟨_,rfl,rfl⟩
  ·refine WA (rs:=[(RV.cell 4 2 SA)]) Tryz.func89 (fun a w=>Tryz.call89 a w) body89 cc89 (by kernel_rfl) ?_
   rw [Tryz.ntmps89]
   simp only [pC,nA,nS]
   repeat (first | (with_reducible first | refine W8 ?_ | refine VA rfl ?_) | ((with_reducible refine X8 fun K hK=>?_);simp (disch:=first | omega | simp only [sB];omega) only [qB,reduceIte,reduceCtorEq,iT,nA,nS,nM,iA,iS,iM,iN,fU,UB,HB];subst hK) | refine KB (hsh) rfl rfl rfl ?_)
   exact ⟨_,rfl,rfl⟩
abbrev c71:CC:=(.seq (.reg [(oD 1 (.box 46 (tP 0))),(mI 2 0)]) (.seq (.reg [(fA 3 0 1),(lF 4 1 3),(fA 5 1 1),(lF 6 1 5),(oD 7 (.callf (.func 89) [(tP 4),(tP 6)])),(sT 2 1 7)]) (.seq (.block 0 (.seq (.reg [(fA 9 1 1),(lF 10 1 9),(nL 11 10),(bC 12 .eql 11 0),(mV 8 12)]) (.cond (tP 8) (.seq (.reg [(mI 2 0)]) .ret) (.seq (.reg [(fA 14 0 1),(lF 15 1 14),(mV 13 15)]) (.cond (tP 13) (.seq (.reg [(mI 2 (-1))]) .ret) .skip))))) (.seq (.reg [(mI 2 1)]) .ret))))
theorem cc71:ZA Tryz.prog [] (Tryz.f71.body.getD .skip) = PA c71:=by kernel_rfl
theorem body71:Tryz.f71.body = PA (Tryz.f71.body.getD .skip):=rfl
theorem eI (a:RI) (ha:(UA a.size).length <= 1000000000):YA Tryz.prog 71 [aW a] (.ret (aI (dE a.val))):=by
 have hmk:=WG a.minus a.size ha
 rw [ri_eta] at hmk
 have hl:=len_abs a.val
 generalize a.val = z at *
 unfold dE
 by_cases h0:z = 0
 ·have hl2:=hl.2 h0
  rw [if_neg (by omega),if_pos h0]
  refine WA (rs:=[(RV.tmp 2)]) Tryz.func71 (fun a w=>Tryz.call71 a w) body71 cc71 (by kernel_rfl) ?_
  rw [Tryz.ntmps71]
  simp only [pC,nA,nS]
  repeat (first | (with_reducible first | refine W8 ?_ | refine VA rfl ?_) | ((with_reducible refine X8 fun K hK=>?_);simp (disch:=first | omega | simp only [sB];omega) only [qB,reduceIte,reduceCtorEq,iT,nA,nS,nM,iA,iS,iM,iN,fU,UB,HB];subst hK) | refine KB (hmk) rfl rfl rfl ?_)
  exact ⟨_,rfl,rfl⟩
 ·have hl2:(UA (iC z.natAbs)).length ≠ 0:=fun e=>h0 (hl.1 e)
  by_cases h1:z < 0
  ·rw [if_pos h1]
   refine WA (rs:=[(RV.tmp 2)]) Tryz.func71 (fun a w=>Tryz.call71 a w) body71 cc71 (by kernel_rfl) ?_
   rw [Tryz.ntmps71]
   simp only [pC,nA,nS]
   repeat (first | (with_reducible first | refine W8 ?_ | refine VA rfl ?_) | ((with_reducible refine X8 fun K hK=>?_);simp (disch:=first | omega | simp only [sB];omega) only [qB,reduceIte,reduceCtorEq,iT,nA,nS,nM,iA,iS,iM,iN,fU,UB,HB];subst hK) | refine KB (hmk) rfl rfl rfl ?_)
   exact ⟨_,rfl,rfl⟩
  ·rw [if_neg h1,if_neg h0]
   refine WA (rs:=[(RV.tmp 2)]) Tryz.func71 (fun a w=>Tryz.call71 a w) body71 cc71 (by kernel_rfl) ?_
   rw [Tryz.ntmps71]
   simp only [pC,nA,nS]
   repeat (first | (with_reducible first | refine W8 ?_ | refine VA rfl ?_) | ((with_reducible refine X8 fun K hK=>?_);simp (disch:=first | omega | simp only [sB];omega) only [qB,reduceIte,reduceCtorEq,iT,nA,nS,nM,iA,iS,iM,iN,fU,UB,HB];subst hK) | refine KB (hmk) rfl rfl rfl ?_)
   exact ⟨_,rfl,rfl⟩
abbrev c133:CC:=(.seq (.reg [(oD 1 (.box 46 (tP 0))),(oD 2 (.new 46 [(.bool TA),(.slice QA 0 0)]))]) (.seq (.reg [(fA 3 0 1),(lF 4 1 3),(uN 5 4),(fA 6 1 1),(lF 7 1 6),(oD 8 (.callf (.func 89) [(tP 5),(tP 7)])),(sT 2 2 8)]) .ret))
theorem cc133:ZA Tryz.prog [] (Tryz.f133.body.getD .skip) = PA c133:=by kernel_rfl
theorem body133:Tryz.f133.body = PA (Tryz.f133.body.getD .skip):=rfl
theorem wneg_C (a:RI) (ha:(UA a.size).length <= 1000000000):YA Tryz.prog 133 [aW a] (.ret (aW (MC (-a.val)))):=by
 have hmk:=WG (!a.minus) a.size ha
 rw [show RI.val ⟨!a.minus,a.size⟩ = -a.val from by unfold RI.val;cases a.minus <;> simp] at hmk
 refine WA (rs:=[(RV.cell 2 2 SA)]) Tryz.func133 (fun a w=>Tryz.call133 a w) body133 cc133 (by kernel_rfl) ?_
 rw [Tryz.ntmps133]
 simp only [pC,nA,nS]
 repeat (first | (with_reducible first | refine W8 ?_ | refine VA rfl ?_) | ((with_reducible refine X8 fun K hK=>?_);simp (disch:=first | omega | simp only [sB];omega) only [qB,reduceIte,reduceCtorEq,iT,nA,nS,nM,iA,iS,iM,iN,fU,UB,HB];subst hK) | refine KB (hmk) rfl rfl rfl ?_)
 exact ⟨_,rfl,rfl⟩
abbrev c72:CC:=(.seq (.reg [(oD 2 (.box 46 (tP 0))),(oD 3 (.box 46 (tP 1))),(mI 4 0)]) (.seq (.reg [(lT 7 2 2),(oD 8 (.callf (.func 71) [(tP 7)])),(lT 9 2 3),(oD 10 (.callf (.func 71) [(tP 9)])),(mV 5 8),(mV 6 10)]) (.seq (.seq (.reg [(mV 11 5),(mV 12 6),(bB 13 .neq 11 12)]) (.cond (tP 13) (.seq (.reg [(mV 14 5),(mV 15 6),(bB 16 .sub 14 15),(oD 17 (.mm SA (tP 16) (.const (.int .i64 (-1))))),(oD 18 (.mm TA (tP 17) (.const (.int .i64 (1))))),(mV 4 18)]) .ret) .skip)) (.seq (.seq (.reg [(mV 19 5),(bC 20 .lss 19 0)]) (.cond (tP 20) (.seq (.reg [(fA 21 1 3),(lF 22 1 21),(fA 23 1 2),(lF 24 1 23),(oD 25 (.callf (.func 98) [(tP 22),(tP 24)])),(mV 4 25)]) .ret) .skip)) (.seq (.reg [(fA 26 1 2),(lF 27 1 26),(fA 28 1 3),(lF 29 1 28),(oD 30 (.callf (.func 98) [(tP 27),(tP 29)])),(mV 4 30)]) .ret)))))
theorem cc72:ZA Tryz.prog [] (Tryz.f72.body.getD .skip) = PA c72:=by kernel_rfl
theorem body72:Tryz.f72.body = PA (Tryz.f72.body.getD .skip):=rfl
theorem wcompare_C (a b:RI) (ha:(UA a.size).length <= 1000000000) (hb:(UA b.size).length <= 1000000000):YA Tryz.prog 72 [aW a,aW b] (.ret (aI (yK a.val b.val))):=by
 have hsa:=eI a ha
 have hsb:=eI b hb
 have hab:=uH a.size b.size ha hb
 have hba:=uH b.size a.size hb ha
 have h1:=rJ a
 have h2:=rJ b
 have b1:=eN a.val
 have b2:=eN b.val
 by_cases hne:dE a.val = dE b.val
 ·by_cases hlt:dE a.val < 0
  ·have hlt2:=hlt
   rw [iI] at hlt2
   have hlt3:=hlt
   rw [hne,iI] at hlt3
   rw [show yK a.val b.val = ID b.size.val a.size.val from by unfold yK ID;rw [<- h1,<- h2];split <;> split <;> (try split) <;> (try split) <;> omega]
   generalize ID b.size.val a.size.val = z at *
   generalize dE a.val = x at *
   generalize dE b.val = y at *
   refine WA (rs:=[(RV.tmp 4)]) Tryz.func72 (fun a w=>Tryz.call72 a w) body72 cc72 (by kernel_rfl) ?_
   rw [Tryz.ntmps72]
   simp only [pC,nA,nS]
   repeat (first | (with_reducible first | refine W8 ?_ | refine VA rfl ?_) | ((with_reducible refine X8 fun K hK=>?_);simp (disch:=first | omega | simp only [sB];omega) only [qB,reduceIte,reduceCtorEq,iT,nA,nS,nM,iA,iS,iM,iN,fU,UB,HB];subst hK) | refine KB (hsa) rfl rfl rfl ?_ | refine KB (hsb) rfl rfl rfl ?_ | refine KB (hba) rfl rfl rfl ?_)
   exact ⟨_,rfl,rfl⟩
  ·have hlt2:=hlt
   rw [iI] at hlt2
   have hlt3:=hlt
   rw [hne,iI] at hlt3
   rw [show yK a.val b.val = ID a.size.val b.size.val from by unfold yK ID;rw [<- h1,<- h2];split <;> split <;> (try split) <;> (try split) <;> omega]
   generalize ID a.size.val b.size.val = z at *
   generalize dE a.val = x at *
   generalize dE b.val = y at *
   refine WA (rs:=[(RV.tmp 4)]) Tryz.func72 (fun a w=>Tryz.call72 a w) body72 cc72 (by kernel_rfl) ?_
   rw [Tryz.ntmps72]
   simp only [pC,nA,nS]
   repeat (first | (with_reducible first | refine W8 ?_ | refine VA rfl ?_) | ((with_reducible refine X8 fun K hK=>?_);simp (disch:=first | omega | simp only [sB];omega) only [qB,reduceIte,reduceCtorEq,iT,nA,nS,nM,iA,iS,iM,iN,fU,UB,HB];subst hK) | refine KB (hsa) rfl rfl rfl ?_ | refine KB (hsb) rfl rfl rfl ?_ | refine KB (hab) rfl rfl rfl ?_)
   exact ⟨_,rfl,rfl⟩
 ·rw [show yK a.val b.val = min (max (dE a.val - dE b.val) (-1)) 1 from by
   unfold yK dE at *
   split at hne <;> split at hne <;> (try split at hne) <;> (try split at hne) <;> simp_all <;> (try split) <;> (try split) <;> omega]
  generalize dE a.val = x at *
  generalize dE b.val = y at *
  refine WA (rs:=[(RV.tmp 4)]) Tryz.func72 (fun a w=>Tryz.call72 a w) body72 cc72 (by kernel_rfl) ?_
  rw [Tryz.ntmps72]
  simp only [pC,nA,nS]
  repeat (first | (with_reducible first | refine W8 ?_ | refine VA rfl ?_) | ((with_reducible refine X8 fun K hK=>?_);simp (disch:=first | omega | simp only [sB];omega) only [qB,reduceIte,reduceCtorEq,iT,nA,nS,nM,iA,iS,iM,iN,fU,UB,HB,ite_min];subst hK) | refine KB (hsa) rfl rfl rfl ?_ | refine KB (hsb) rfl rfl rfl ?_)
  exact ⟨_,rfl,rfl⟩
end Go.Proofs.YtncgbjhojbnecaaGreat
namespace Go.Proofs.YtncgbjhojbnecaaGreat
open Go Go.Am Go.Proofs Go.Off
open Nat renaming reduceAdd -> nA,reduceSub -> nS,reduceMul -> nM,reduceBEq -> nB
open Int renaming reduceToNat -> iT,reduceAdd -> iA,reduceSub -> iS,reduceMul -> iM,reduceNeg -> iN
theorem ri_mk (m:Bool) (s:iG):RI.val ⟨m,s⟩ = if m = SA then -(s.val:Int) else (s.val:Int):=rfl
theorem ZB (n:Nat):(UA (iC n)).length = (DB n).length:=rfl
theorem XD (a:iG):(DB a.val).length <= (UA a).length:=NC a
abbrev c57:CC:=(.seq (.reg [(oD 2 (.box 46 (tP 0))),(oD 3 (.box 46 (tP 1))),(oD 4 (.new 46 [(.bool TA),(.slice QA 0 0)]))]) (.seq (.reg [(lT 5 2 2),(oD 6 (.callf (.func 71) [(tP 5)])),(lT 7 2 3),(oD 8 (.callf (.func 71) [(tP 7)])),(bB 9 .mul 6 8),(bC 10 .lss 9 0),(fA 11 1 2),(lF 12 1 11),(fA 13 1 3),(lF 14 1 13),(oD 15 (.callf (.func 55) [(tP 12),(tP 14)])),(oD 16 (.callf (.func 89) [(tP 10),(tP 15)])),(sT 2 4 16)]) .ret))
theorem cc57:ZA Tryz.prog [] (Tryz.f57.body.getD .skip) = PA c57:=by kernel_rfl
theorem body57:Tryz.f57.body = PA (Tryz.f57.body.getD .skip):=rfl
theorem wmul_C (a b:RI) (ha:(UA a.size).length <= 400000000) (hb:(UA b.size).length <= 400000000):YA Tryz.prog 57 [aW a,aW b] (.ret (aW (MC (a.val * b.val)))):=by
 have hsa:=eI a (by omega)
 have hsb:=eI b (by omega)
 have hmul:=mul_C a.size b.size (by omega) (by omega)
 have hlm:(DB (a.size.val * b.size.val)).length <= (UA a.size).length + (UA b.size).length:=by
  refine fC ?_
  rw [Nat.pow_add]
  exact Nat.mul_lt_mul'' (IE _) (IE _)
 have hmk:=WG (decide (dE a.val * dE b.val < 0)) (iC (a.size.val * b.size.val)) (by rw [ZB];omega)
 rw [show RI.val ⟨decide (dE a.val * dE b.val < 0),iC (a.size.val * b.size.val)⟩ = a.val * b.val from by
  rw [ri_mk,WF,rowN_val]
  simp only [iI,decide_eq_true_eq]
  rw [<- rJ a,<- rJ b,<- Int.natAbs_mul]
  split <;> omega] at hmk
 have b1:=eN (a.val * b.val)
 rw [<- WF] at b1
 generalize iC (a.size.val * b.size.val) = t at *
 generalize dE a.val = x at *
 generalize dE b.val = y at *
 generalize a.val * b.val = z at *
 obtain ⟨p,hp⟩:∃ p,p = x * y:=⟨_,rfl⟩
 rw [<- hp] at b1 hmk
 by_cases hn:p < 0
 ·rw [show decide (p < 0) = SA from by simp [hn]] at hmk
  refine WA (rs:=[(RV.cell 4 2 SA)]) Tryz.func57 (fun a w=>Tryz.call57 a w) body57 cc57 (by kernel_rfl) ?_
  rw [Tryz.ntmps57]
  simp only [pC,nA,nS]
  repeat (first | (with_reducible first | refine W8 ?_ | refine VA rfl ?_) | ((with_reducible refine X8 fun K hK=>?_);simp (disch:=first | omega | simp only [sB];omega) only [qB,reduceIte,reduceCtorEq,iT,nA,nS,nM,iA,iS,iM,iN,fU,UB,HB,<- hp];subst hK) | refine KB (hsa) rfl rfl rfl ?_ | refine KB (hsb) rfl rfl rfl ?_ | refine KB (hmul) rfl rfl rfl ?_ | refine KB (hmk) rfl rfl rfl ?_)
  exact ⟨_,rfl,rfl⟩
 ·rw [show decide (p < 0) = TA from by simp [hn]] at hmk
  refine WA (rs:=[(RV.cell 4 2 SA)]) Tryz.func57 (fun a w=>Tryz.call57 a w) body57 cc57 (by kernel_rfl) ?_
  rw [Tryz.ntmps57]
  simp only [pC,nA,nS]
  repeat (first | (with_reducible first | refine W8 ?_ | refine VA rfl ?_) | ((with_reducible refine X8 fun K hK=>?_);simp (disch:=first | omega | simp only [sB];omega) only [qB,reduceIte,reduceCtorEq,iT,nA,nS,nM,iA,iS,iM,iN,fU,UB,HB,<- hp];subst hK) | refine KB (hsa) rfl rfl rfl ?_ | refine KB (hsb) rfl rfl rfl ?_ | refine KB (hmul) rfl rfl rfl ?_ | refine KB (hmk) rfl rfl rfl ?_)
  exact ⟨_,rfl,rfl⟩
abbrev c51:CC:=(.seq (.reg [(oD 2 (.new 46 [(.bool TA),(.slice QA 0 0)]))]) (.seq (.reg [(mV 3 0),(bC 4 .lss 3 0),(mV 5 0),(mV 6 0),(oD 7 (.un .neg (tP 6))),(oD 8 (.mm SA (tP 5) (tP 7))),(oD 9 (.conv .u64 (tP 8))),(oD 10 (.callf (.func 52) [(tP 9)])),(oD 11 (.callf (.func 89) [(tP 4),(tP 10)])),(sT 2 2 11)]) .ret))
theorem cc51:ZA Tryz.prog [] (Tryz.f51.body.getD .skip) = PA c51:=by kernel_rfl
theorem body51:Tryz.f51.body = PA (Tryz.f51.body.getD .skip):=rfl
theorem wof_C (n:Int) (h1 : -9223372036854775808 <= n) (h2:n <= 9223372036854775807):YA Tryz.prog 51 [aI n] (.ret (aW (MC n))):=by
 have hof:=of_C n.natAbs (by omega)
 have hmk:=WG (decide (n < 0)) (iC n.natAbs) (by
  rw [ZB]
  have:=fC (n:=n.natAbs) (k:=2) (by simp;omega)
  omega)
 rw [show RI.val ⟨decide (n < 0),iC n.natAbs⟩ = n from by
  rw [ri_mk]
  simp only [rowN_val,decide_eq_true_eq]
  split <;> omega] at hmk
 have hmx:IntKind.u64.wrap (max n (IntKind.i64.wrap (0 - n))) = (n.natAbs:Int):=by
  by_cases hm:n = -9223372036854775808
  ·subst hm;decide
  ·rw [wi64 (by omega) (by omega),wu64 (by omega) (by omega)];omega
 have hmx2:(max n (IntKind.i64.wrap (0 - n)):Int) = max n (IntKind.i64.wrap (0 - n)):=rfl
 generalize iC n.natAbs = t at *
 generalize hw:IntKind.i64.wrap (0 - n) = w at *
 by_cases hn:n < 0
 ·rw [show decide (n < 0) = SA from by simp [hn]] at hmk
  have hz:MC n = ⟨SA,iC n.natAbs⟩:=by unfold MC;simp [hn]
  rw [hz] at hmk ⊢
  refine WA (rs:=[(RV.cell 2 2 SA)]) Tryz.func51 (fun a w=>Tryz.call51 a w) body51 cc51 (by kernel_rfl) ?_
  rw [Tryz.ntmps51]
  simp only [pC,nA,nS]
  repeat (first | (with_reducible first | refine W8 ?_ | refine VA rfl ?_) | ((with_reducible refine X8 fun K hK=>?_);simp (disch:=first | omega | simp only [sB];omega) only [qB,reduceIte,reduceCtorEq,iT,nA,nS,nM,iA,iS,iM,iN,fU,UB,HB,hw,hmx];subst hK) | refine KB (hof) rfl rfl rfl ?_ | refine KB (hmk) rfl rfl rfl ?_)
  exact ⟨_,rfl,rfl⟩
 ·rw [show decide (n < 0) = TA from by simp [hn]] at hmk
  have hz:MC n = ⟨TA,iC n.natAbs⟩:=by unfold MC;simp [hn]
  rw [hz] at hmk ⊢
  refine WA (rs:=[(RV.cell 2 2 SA)]) Tryz.func51 (fun a w=>Tryz.call51 a w) body51 cc51 (by kernel_rfl) ?_
  rw [Tryz.ntmps51]
  simp only [pC,nA,nS]
  repeat (first | (with_reducible first | refine W8 ?_ | refine VA rfl ?_) | ((with_reducible refine X8 fun K hK=>?_);simp (disch:=first | omega | simp only [sB];omega) only [qB,reduceIte,reduceCtorEq,iT,nA,nS,nM,iA,iS,iM,iN,fU,UB,HB,hw,hmx];subst hK) | refine KB (hof) rfl rfl rfl ?_ | refine KB (hmk) rfl rfl rfl ?_)
  exact ⟨_,rfl,rfl⟩
theorem nH (m:Bool) (n:Nat) (z:Int) (hl:(DB n).length <= 1000000000) (h:(if m = SA then -(n:Int) else (n:Int)) = z):YA Tryz.prog 89 [aB m,aN (iC n)] (.ret (aW (MC z))):=by
 have hmk:=WG m (iC n) (by rw [ZB];exact hl)
 rw [ri_mk,rowN_val,h] at hmk
 exact hmk
theorem MH (a b:Nat):(DB (a + b)).length <= (DB a).length + (DB b).length + 1:=by
 have h1:=IE (DB a)
 have h2:=IE (DB b)
 rw [FC] at h1 h2
 refine fC ?_
 rw [Nat.pow_succ,Nat.pow_add]
 have h3:1 <= 4294967296 ^ (DB a).length:=Nat.pow_pos (by decide)
 have h4:1 <= 4294967296 ^ (DB b).length:=Nat.pow_pos (by decide)
 generalize 4294967296 ^ (DB a).length = p at *
 generalize 4294967296 ^ (DB b).length = q at *
 have h5:p * 1 <= p * q:=Nat.mul_le_mul_left _ h4
 have h6:1 * q <= p * q:=Nat.mul_le_mul_right _ h3
 omega
abbrev c53:CC:=(.seq (.reg [(oD 2 (.box 46 (tP 0))),(oD 3 (.box 46 (tP 1))),(oD 4 (.new 46 [(.bool TA),(.slice QA 0 0)]))]) (.seq (.seq (.reg [(lT 9 2 2),(oD 10 (.callf (.func 71) [(tP 9)])),(bC 11 .lss 10 0),(lT 12 2 3),(oD 13 (.callf (.func 71) [(tP 12)])),(bC 14 .lss 13 0),(oD 15 (.beq TA (tP 11) (tP 14)))]) (.cond (tP 15) (.seq (.reg [(lT 16 2 2),(oD 17 (.callf (.func 71) [(tP 16)])),(bC 18 .lss 17 0),(fA 19 1 2),(lF 20 1 19),(fA 21 1 3),(lF 22 1 21),(oD 23 (.callf (.func 93) [(tP 20),(tP 22)])),(oD 24 (.callf (.func 89) [(tP 18),(tP 23)])),(sT 2 4 24)]) .ret) .skip)) (.seq (.seq (.reg [(fA 26 1 2),(lF 27 1 26),(fA 28 1 3),(lF 29 1 28),(oD 30 (.callf (.func 94) [(tP 27),(tP 29)])),(mV 25 30),(eX 31 25 0),(eX 32 25 1),(mV 5 31),(mV 6 32)]) (.seq (.reg [(mV 33 6)]) (.cond (tP 33) (.seq (.reg [(lT 34 2 2),(oD 35 (.callf (.func 71) [(tP 34)])),(bC 36 .lss 35 0),(mV 37 5),(oD 38 (.callf (.func 89) [(tP 36),(tP 37)])),(sT 2 4 38)]) .ret) .skip))) (.seq (.reg [(fA 40 1 3),(lF 41 1 40),(fA 42 1 2),(lF 43 1 42),(oD 44 (.callf (.func 94) [(tP 41),(tP 43)])),(mV 39 44),(eX 45 39 0),(eX 46 39 1),(mV 7 45),(mV 8 46)]) (.seq (.reg [(lT 47 2 3),(oD 48 (.callf (.func 71) [(tP 47)])),(bC 49 .lss 48 0),(mV 50 7),(oD 51 (.callf (.func 89) [(tP 49),(tP 50)])),(sT 2 4 51)]) .ret)))))
theorem cc53:ZA Tryz.prog [] (Tryz.f53.body.getD .skip) = PA c53:=by kernel_rfl
theorem FN:Tryz.f53.body = PA (Tryz.f53.body.getD .skip):=rfl
theorem wadd_C (a b:RI) (ha:(UA a.size).length <= 400000000) (hb:(UA b.size).length <= 400000000):YA Tryz.prog 53 [aW a,aW b] (.ret (aW (MC (a.val + b.val)))):=by
 have hsa:=eI a (by omega)
 have hsb:=eI b (by omega)
 have h1:=rJ a
 have h2:=rJ b
 have l1:=XD a.size
 have l2:=XD b.size
 have l3:=MH a.size.val b.size.val
 have s1:(dE a.val < 0) = (a.val < 0):=iI _
 have s2:(dE b.val < 0) = (b.val < 0):=iI _
 by_cases hA:a.val < 0 <;> by_cases hB:b.val < 0
 ·have hadd:=add_C a.size b.size (by omega) (by omega)
  have hmk:=nH SA (a.size.val + b.size.val) (a.val + b.val) (by omega) (by rw [if_pos rfl];omega)
  have hxa:dE a.val < 0:=by rw [s1];exact hA
  have hxb:dE b.val < 0:=by rw [s2];exact hB
  generalize dE a.val = x at *
  generalize dE b.val = y at *
  generalize a.val + b.val = z at *
  refine WA (rs:=[(RV.cell 4 2 SA)]) Tryz.func53 (fun a w=>Tryz.call53 a w) FN cc53 (by kernel_rfl) ?_
  rw [Tryz.ntmps53]
  simp only [pC,nA,nS]
  repeat (first | (with_reducible first | refine W8 ?_ | refine VA rfl ?_) | ((with_reducible refine X8 fun K hK=>?_);simp (disch:=first | omega | simp only [sB];omega) only [qB,reduceIte,reduceCtorEq,iT,nA,nS,nM,iA,iS,iM,iN,fU,UB,HB];subst hK) | refine KB (hsa) rfl rfl rfl ?_ | refine KB (hsb) rfl rfl rfl ?_ | refine KB (hadd) rfl rfl rfl ?_ | refine KB (hmk) rfl rfl rfl ?_)
  exact ⟨_,rfl,rfl⟩
 ·have hxa:dE a.val < 0:=by rw [s1];exact hA
  have hxb:¬ dE b.val < 0:=by rw [s2];exact hB
  by_cases hge:b.size.val <= a.size.val
  ·have hsub:=oP a.size b.size (by omega) (by omega) hge
   have hmk:=nH SA (a.size.val - b.size.val) (a.val + b.val) (GA (mC (Nat.sub_le _ _)) (by omega)) (by rw [if_pos rfl];omega)
   generalize dE a.val = x at *
   generalize dE b.val = y at *
   generalize a.val + b.val = z at *
   refine WA (rs:=[(RV.cell 4 2 SA)]) Tryz.func53 (fun a w=>Tryz.call53 a w) FN cc53 (by kernel_rfl) ?_
   rw [Tryz.ntmps53]
   simp only [pC,nA,nS]
   repeat (first | (with_reducible first | refine W8 ?_ | refine VA rfl ?_) | ((with_reducible refine X8 fun K hK=>?_);simp (disch:=first | omega | simp only [sB];omega) only [qB,reduceIte,reduceCtorEq,iT,nA,nS,nM,iA,iS,iM,iN,fU,UB,HB];subst hK) | refine KB (hsa) rfl rfl rfl ?_ | refine KB (hsb) rfl rfl rfl ?_ | refine KB (hsub) rfl rfl rfl ?_ | refine KB (hmk) rfl rfl rfl ?_)
   exact ⟨_,rfl,rfl⟩
  ·have hsub:=sub_lt a.size b.size (by omega) (by omega) (by omega)
   have hsub2:=oP b.size a.size (by omega) (by omega) (by omega)
   have hmk:=nH TA (b.size.val - a.size.val) (a.val + b.val) (GA (mC (Nat.sub_le _ _)) (by omega)) (by rw [if_neg (by decide)];omega)
   generalize dE a.val = x at *
   generalize dE b.val = y at *
   generalize a.val + b.val = z at *
   refine WA (rs:=[(RV.cell 4 2 SA)]) Tryz.func53 (fun a w=>Tryz.call53 a w) FN cc53 (by kernel_rfl) ?_
   rw [Tryz.ntmps53]
   simp only [pC,nA,nS]
   repeat (first | (with_reducible first | refine W8 ?_ | refine VA rfl ?_) | ((with_reducible refine X8 fun K hK=>?_);simp (disch:=first | omega | simp only [sB];omega) only [qB,reduceIte,reduceCtorEq,iT,nA,nS,nM,iA,iS,iM,iN,fU,UB,HB];subst hK) | refine KB (hsa) rfl rfl rfl ?_ | refine KB (hsb) rfl rfl rfl ?_ | refine KB (hsub) rfl rfl rfl ?_ | refine KB (hsub2) rfl rfl rfl ?_ | refine KB (hmk) rfl rfl rfl ?_)
   exact ⟨_,rfl,rfl⟩
 ·have hxa:¬ dE a.val < 0:=by rw [s1];exact hA
  have hxb:dE b.val < 0:=by rw [s2];exact hB
  by_cases hge:b.size.val <= a.size.val
  ·have hsub:=oP a.size b.size (by omega) (by omega) hge
   have hmk:=nH TA (a.size.val - b.size.val) (a.val + b.val) (GA (mC (Nat.sub_le _ _)) (by omega)) (by rw [if_neg (by decide)];omega)
   generalize dE a.val = x at *
   generalize dE b.val = y at *
   generalize a.val + b.val = z at *
   refine WA (rs:=[(RV.cell 4 2 SA)]) Tryz.func53 (fun a w=>Tryz.call53 a w) FN cc53 (by kernel_rfl) ?_
   rw [Tryz.ntmps53]
   simp only [pC,nA,nS]
   repeat (first | (with_reducible first | refine W8 ?_ | refine VA rfl ?_) | ((with_reducible refine X8 fun K hK=>?_);simp (disch:=first | omega | simp only [sB];omega) only [qB,reduceIte,reduceCtorEq,iT,nA,nS,nM,iA,iS,iM,iN,fU,UB,HB];subst hK) | refine KB (hsa) rfl rfl rfl ?_ | refine KB (hsb) rfl rfl rfl ?_ | refine KB (hsub) rfl rfl rfl ?_ | refine KB (hmk) rfl rfl rfl ?_)
   exact ⟨_,rfl,rfl⟩
  ·have hsub:=sub_lt a.size b.size (by omega) (by omega) (by omega)
   have hsub2:=oP b.size a.size (by omega) (by omega) (by omega)
   have hmk:=nH SA (b.size.val - a.size.val) (a.val + b.val) (GA (mC (Nat.sub_le _ _)) (by omega)) (by rw [if_pos rfl];omega)
   generalize dE a.val = x at *
   generalize dE b.val = y at *
   generalize a.val + b.val = z at *
   refine WA (rs:=[(RV.cell 4 2 SA)]) Tryz.func53 (fun a w=>Tryz.call53 a w) FN cc53 (by kernel_rfl) ?_
   rw [Tryz.ntmps53]
   simp only [pC,nA,nS]
   repeat (first | (with_reducible first | refine W8 ?_ | refine VA rfl ?_) | ((with_reducible refine X8 fun K hK=>?_);simp (disch:=first | omega | simp only [sB];omega) only [qB,reduceIte,reduceCtorEq,iT,nA,nS,nM,iA,iS,iM,iN,fU,UB,HB];subst hK) | refine KB (hsa) rfl rfl rfl ?_ | refine KB (hsb) rfl rfl rfl ?_ | refine KB (hsub) rfl rfl rfl ?_ | refine KB (hsub2) rfl rfl rfl ?_ | refine KB (hmk) rfl rfl rfl ?_)
   exact ⟨_,rfl,rfl⟩
 ·have hadd:=add_C a.size b.size (by omega) (by omega)
  have hmk:=nH TA (a.size.val + b.size.val) (a.val + b.val) (by omega) (by rw [if_neg (by decide)];omega)
  have hxa:¬ dE a.val < 0:=by rw [s1];exact hA
  have hxb:¬ dE b.val < 0:=by rw [s2];exact hB
  generalize dE a.val = x at *
  generalize dE b.val = y at *
  generalize a.val + b.val = z at *
  refine WA (rs:=[(RV.cell 4 2 SA)]) Tryz.func53 (fun a w=>Tryz.call53 a w) FN cc53 (by kernel_rfl) ?_
  rw [Tryz.ntmps53]
  simp only [pC,nA,nS]
  repeat (first | (with_reducible first | refine W8 ?_ | refine VA rfl ?_) | ((with_reducible refine X8 fun K hK=>?_);simp (disch:=first | omega | simp only [sB];omega) only [qB,reduceIte,reduceCtorEq,iT,nA,nS,nM,iA,iS,iM,iN,fU,UB,HB];subst hK) | refine KB (hsa) rfl rfl rfl ?_ | refine KB (hsb) rfl rfl rfl ?_ | refine KB (hadd) rfl rfl rfl ?_ | refine KB (hmk) rfl rfl rfl ?_)
  exact ⟨_,rfl,rfl⟩
end Go.Proofs.YtncgbjhojbnecaaGreat
namespace Go.Proofs.YtncgbjhojbnecaaGreat
open Go Go.Am Go.Proofs Go.Off
open Nat renaming reduceAdd -> nA,reduceSub -> nS,reduceMul -> nM,reduceBEq -> nB
open Int renaming reduceToNat -> iT,reduceAdd -> iA,reduceSub -> iS,reduceMul -> iM,reduceNeg -> iN
abbrev aR (r:RR):AV:=.agg [.c (.val (.bool r.minus)),.c (nr r.size),.c (nr r.den)]
abbrev TJ (r:RR):RI:=⟨r.minus,r.size⟩
theorem aG (r:RR):(TJ r).val = r.top:=rfl
def PG (d:iG):iG:=if d.val = 0 then iC 1 else d
theorem OH (d:iG):(PG d).val = if d.val = 0 then 1 else d.val:=by unfold PG;split <;> simp [*]
theorem RD (r:RR):(PG r.den).val = r.bot:=OH r.den
theorem PH (d:iG):(UA (PG d)).length <= max 1 (UA d).length:=by
 unfold PG;split
 ·rw [ZB]
  have:=fC (n:=1) (k:=1) (by decide)
  omega
 ·omega
abbrev c56:CC:=(.seq (.reg [(oD 1 (.box 48 (tP 0))),(oD 2 (.mv nC))]) (.seq (.seq (.reg [(fA 3 2 1),(lF 4 1 3),(oD 5 (.callf (.func 95) [(tP 4)])),(bC 6 .eql 5 0)]) (.cond (tP 6) (.seq (.reg [(oD 7 (.callf (.func 52) [(.const (.int .u64 (1)))])),(mV 2 7)]) .ret) .skip)) (.seq (.reg [(fA 8 2 1),(lF 9 1 8),(mV 2 9)]) .ret)))
theorem cc56:ZA Tryz.prog [] (Tryz.f56.body.getD .skip) = PA c56:=by kernel_rfl
theorem body56:Tryz.f56.body = PA (Tryz.f56.body.getD .skip):=rfl
theorem WQ (r:RR) (h:(UA r.den).length <= 1000000000):YA Tryz.prog 56 [aR r] (.ret (aN (PG r.den))):=by
 obtain ⟨m,hm,hb⟩:=bits_C r.den h
 have hof:=of_C 1 (by decide)
 unfold PG
 by_cases h0:r.den.val = 0
 ·have hm0:=hm.2 h0
  rw [if_pos h0]
  refine WA (rs:=[(RV.tmp 2)]) Tryz.func56 (fun a w=>Tryz.call56 a w) body56 cc56 (by kernel_rfl) ?_
  rw [Tryz.ntmps56]
  simp only [pC,nA,nS]
  repeat (first | (with_reducible first | refine W8 ?_ | refine VA rfl ?_) | ((with_reducible refine X8 fun K hK=>?_);simp (disch:=first | omega | simp only [sB];omega) only [qB,reduceIte,reduceCtorEq,iT,nA,nS,nM,iA,iS,iM,iN,fU,UB,HB];subst hK) | refine KB (hb) rfl rfl rfl ?_ | refine KB (hof) rfl rfl rfl ?_)
  exact ⟨_,rfl,rfl⟩
 ·have hm0:m ≠ 0:=fun e=>h0 (hm.1 e)
  rw [if_neg h0]
  refine WA (rs:=[(RV.tmp 2)]) Tryz.func56 (fun a w=>Tryz.call56 a w) body56 cc56 (by kernel_rfl) ?_
  rw [Tryz.ntmps56]
  simp only [pC,nA,nS]
  repeat (first | (with_reducible first | refine W8 ?_ | refine VA rfl ?_) | ((with_reducible refine X8 fun K hK=>?_);simp (disch:=first | omega | simp only [sB];omega) only [qB,reduceIte,reduceCtorEq,iT,nA,nS,nM,iA,iS,iM,iN,fU,UB,HB];subst hK) | refine KB (hb) rfl rfl rfl ?_)
  exact ⟨_,rfl,rfl⟩
theorem make_z (w:RI) (D:Nat) (hD:D ≠ 0):RI.val ⟨w.minus,iC (w.size.val / Nat.gcd w.size.val D)⟩ = (mkRat w.val D).num:=by
 rw [ri_mk,rowN_val,Rat.num_mkRat,if_neg hD,rJ,Nat.gcd_comm D]
 have hg:((Nat.gcd w.size.val D:Nat):Int) ∣ (w.size.val:Int):=by exact_mod_cast Nat.gcd_dvd_left _ _
 unfold RI.val
 cases w.minus
 ·simp
 ·simp only [if_true]
  rw [Int.neg_ediv_of_dvd hg]
  simp
abbrev c45:CC:=(.seq (.reg [(oD 2 (.box 46 (tP 0))),(oD 4 (.new 48 [(.bool TA),(.slice QA 0 0),(.slice QA 0 0)]))]) (.seq (.reg [(mV 12 1),(oD 13 (.build [(.bool TA),(.slice QA 0 0),(.slice QA 0 0)] [(2,(1,(tP 12)))])),(oD 14 (.callf (.func 56) [(tP 13)])),(mV 1 14)]) (.seq (.reg [(fA 15 1 2),(lF 16 1 15),(mV 17 1),(oD 18 (.callf (.func 87) [(tP 16),(tP 17)])),(mV 5 18)]) (.seq (.reg [(fA 20 1 2),(lF 21 1 20),(mV 22 5),(oD 23 (.callf (.func 88) [(tP 21),(tP 22)])),(mV 19 23),(eX 24 19 0),(eX 25 19 1),(eX 26 19 2),(mV 6 24),(mV 7 25),(mV 8 26)]) (.seq (.reg [(mV 28 1),(mV 29 5),(oD 30 (.callf (.func 88) [(tP 28),(tP 29)])),(mV 27 30),(eX 31 27 0),(eX 32 27 1),(eX 33 27 2),(mV 9 31),(mV 10 32),(mV 11 33)]) (.seq (.reg [(fA 34 0 2),(lF 35 1 34),(mV 36 6),(oD 37 (.callf (.func 89) [(tP 35),(tP 36)])),(mV 38 9),(oD 39 (.build [(.bool TA),(.slice QA 0 0),(.slice QA 0 0)] [(0,(2,(tP 37))),(2,(1,(tP 38)))])),(sT 3 4 39)]) .ret))))))
theorem cc45:ZA Tryz.prog [] (Tryz.f45.body.getD .skip) = PA c45:=by kernel_rfl
theorem body45:Tryz.f45.body = PA (Tryz.f45.body.getD .skip):=rfl
theorem aH (w:RI) (d:iG) (hw:(UA w.size).length <= 40000000) (hd:(UA d).length <= 40000000):YA Tryz.prog 45 [aW w,aN d] (.ret (aR (eB (mkRat w.val (PG d).val)))):=by
 have hden:=WQ ⟨TA,QA,d⟩ (by show (UA d).length <= _;omega)
 have hdl:=PH d
 have hD:(PG d).val ≠ 0:=by rw [OH];split <;> omega
 change YA _ _ [.agg [.c (.val (.bool TA)),.c (.val (.slice QA 0 0)),.c (nr d)]] (.ret (aN (PG d))) at hden
 generalize PG d = D at *
 have hg:=gcd_C w.size D (by omega) (by omega) hD
 have hgp:0 < Nat.gcd w.size.val D.val:=Nat.gcd_pos_of_pos_right _ (Nat.pos_of_ne_zero hD)
 have hgl:(DB (Nat.gcd w.size.val D.val)).length <= (UA D).length:=GA (mC (Nat.gcd_le_right _ (Nat.pos_of_ne_zero hD))) (XD D)
 have hd1:=GM w.size (iC (Nat.gcd w.size.val D.val)) (by omega) (by rw [ZB];omega) (by rw [rowN_val];omega)
 have hd2:=GM D (iC (Nat.gcd w.size.val D.val)) (by omega) (by rw [ZB];omega) (by rw [rowN_val];omega)
 rw [rowN_val] at hd1 hd2
 have hlq:(DB (w.size.val / Nat.gcd w.size.val D.val)).length <= (UA w.size).length:=GA (mC (Nat.div_le_self _ _)) (XD w.size)
 have hmk:=WG w.minus (iC (w.size.val / Nat.gcd w.size.val D.val)) (by rw [ZB];omega)
 rw [make_z w D.val hD] at hmk
 have hq:eB (mkRat w.val D.val) = ⟨(MC (mkRat w.val D.val).num).minus,(MC (mkRat w.val D.val).num).size,iC (D.val / Nat.gcd w.size.val D.val)⟩:=by
  unfold eB MC
  rw [make_den _ _ hD,rJ]
 rw [hq]
 generalize MC (mkRat w.val D.val).num = z at *
 generalize iC (w.size.val / Nat.gcd w.size.val D.val) = t1 at *
 generalize iC (D.val / Nat.gcd w.size.val D.val) = t2 at *
 generalize iC (Nat.gcd w.size.val D.val) = g at *
 generalize (if w.size.val = 0 then (QA:iG) else _) = r1 at *
 generalize (if D.val = 0 then (QA:iG) else _) = r2 at *
 refine WA (rs:=[(RV.cell 4 3 SA)]) Tryz.func45 (fun a w=>Tryz.call45 a w) body45 cc45 (by kernel_rfl) ?_
 rw [Tryz.ntmps45]
 simp only [pC,nA,nS]
 repeat (first | (with_reducible first | refine W8 ?_ | refine VA rfl ?_) | ((with_reducible refine X8 fun K hK=>?_);simp (disch:=first | omega | simp only [sB];omega) only [qB,reduceIte,reduceCtorEq,iT,nA,nS,nM,iA,iS,iM,iN,fU,UB,HB];subst hK) | refine KB (hden) rfl rfl rfl ?_ | refine KB (hg) rfl rfl rfl ?_ | refine KB (hd1) rfl rfl rfl ?_ | refine KB (hd2) rfl rfl rfl ?_ | refine KB (hmk) rfl rfl rfl ?_)
 exact ⟨_,rfl,rfl⟩
end Go.Proofs.YtncgbjhojbnecaaGreat
namespace Go.Proofs.YtncgbjhojbnecaaGreat
open Go Go.Am Go.Proofs Go.Off
open Nat renaming reduceAdd -> nA,reduceSub -> nS,reduceMul -> nM,reduceBEq -> nB
open Int renaming reduceToNat -> iT,reduceAdd -> iA,reduceSub -> iS,reduceMul -> iM,reduceNeg -> iN
def vD (r:RR) (L:Nat):Prop:=(UA r.size).length <= L /\ (UA r.den).length <= L
def SB (q:Rat) (L:Nat):Prop:=(DB q.num.natAbs).length <= L /\ (DB q.den).length <= L
theorem QB {q:Rat} {L:Nat} (h:SB q L):vD (eB q) L:=h
theorem vD.mono {r:RR} {L M:Nat} (h:vD r L) (hm:L <= M):vD r M:=⟨GA h.1 hm,GA h.2 hm⟩
theorem SB.mono {q:Rat} {L M:Nat} (h:SB q L) (hm:L <= M):SB q M:=⟨GA h.1 hm,GA h.2 hm⟩
theorem VO (n:Int) (d:Nat) (hd:d ≠ 0) {L:Nat} (h1:(DB n.natAbs).length <= L) (h2:(DB d).length <= L):SB (mkRat n d) L:=by
 constructor
 ·rw [make_num _ _ hd];exact GA (mC (Nat.div_le_self _ _)) h1
 ·rw [make_den _ _ hd];exact GA (mC (Nat.div_le_self _ _)) h2
theorem vT (r:RR):r.top.natAbs = r.size.val:=by unfold RR.top;split <;> omega
theorem vD.top {r:RR} {L:Nat} (h:vD r L):(DB r.top.natAbs).length <= L:=by rw [vT];exact GA (XD _) h.1
theorem vD.bot {r:RR} {L:Nat} (h:vD r L) (hL:1 <= L):(DB r.bot).length <= L:=by
 unfold RR.bot;split
 ·have:=fC (n:=1) (k:=1) (by decide);omega
 ·exact GA (XD _) h.2
theorem vD.val {r:RR} {L:Nat} (h:vD r L) (hL:1 <= L):SB r.val L:=VO _ _ r.bot_ne h.top (h.bot hL)
theorem uC (a b:Nat):(DB (a * b)).length <= (DB a).length + (DB b).length:=by
 have h1:=IE (DB a)
 have h2:=IE (DB b)
 rw [FC] at h1 h2
 refine fC ?_
 rw [Nat.pow_add]
 exact Nat.mul_lt_mul'' h1 h2
theorem SB.mul {a b:Rat} {L M:Nat} (h1:SB a L) (h2:SB b M):SB (a * b) (L + M):=by
 rw [Rat.mul_def']
 refine VO _ _ (Nat.mul_ne_zero a.den_nz b.den_nz) ?_ ?_
 ·rw [Int.natAbs_mul];have:=uC a.num.natAbs b.num.natAbs;have:=h1.1;have:=h2.1;omega
 ·have:=uC a.den b.den;have:=h1.2;have:=h2.2;omega
theorem SB.add {a b:Rat} {L M:Nat} (h1:SB a L) (h2:SB b M):SB (a + b) (2 * (L + M) + 1):=by
 rw [Rat.add_def']
 refine VO _ _ (Nat.mul_ne_zero a.den_nz b.den_nz) ?_ ?_
 ·have e1:=uC a.num.natAbs b.den
  have e2:=uC b.num.natAbs a.den
  have e3:=MH (a.num.natAbs * b.den) (b.num.natAbs * a.den)
  have e4:(a.num * b.den + b.num * a.den).natAbs <= a.num.natAbs * b.den + b.num.natAbs * a.den:=by
   have:=Int.natAbs_add_le (a.num * b.den) (b.num * a.den)
   rwa [Int.natAbs_mul,Int.natAbs_mul,Int.natAbs_natCast,Int.natAbs_natCast] at this
  have e5:=mC e4
  have:=h1.1;have:=h2.1;have:=h1.2;have:=h2.2;omega
 ·have:=uC a.den b.den;have:=h1.2;have:=h2.2;omega
theorem SB.neg {a:Rat} {L:Nat} (h:SB a L):SB (-a) L:=⟨by rw [Rat.neg_num,Int.natAbs_neg];exact h.1,h.2⟩
abbrev c27:CC:=(.seq (.reg [(oD 1 (.box 48 (tP 0))),(mI 2 0)]) (.seq (.reg [(fA 3 0 1),(lT 4 2 3),(oD 5 (.callf (.func 71) [(tP 4)])),(mV 2 5)]) .ret))
theorem cc27:ZA Tryz.prog [] (Tryz.f27.body.getD .skip) = PA c27:=by kernel_rfl
theorem body27:Tryz.f27.body = PA (Tryz.f27.body.getD .skip):=rfl
theorem BG (r:RR) (h:vD r 1000000000):YA Tryz.prog 27 [aR r] (.ret (aI (dE r.top))):=by
 have hs:=eI (TJ r) h.1
 rw [aG] at hs
 generalize dE r.top = x at *
 refine WA (rs:=[(RV.tmp 2)]) Tryz.func27 (fun a w=>Tryz.call27 a w) body27 cc27 (by kernel_rfl) ?_
 rw [Tryz.ntmps27]
 simp only [pC,nA,nS]
 repeat (first | (with_reducible first | refine W8 ?_ | refine VA rfl ?_) | ((with_reducible refine X8 fun K hK=>?_);simp (disch:=first | omega | simp only [sB];omega) only [qB,reduceIte,reduceCtorEq,iT,nA,nS,nM,iA,iS,iM,iN,fU,UB,HB];subst hK) | refine KB (hs) rfl rfl rfl ?_)
 exact ⟨_,rfl,rfl⟩
abbrev c54:CC:=(.seq (.reg [(oD 2 (.box 48 (tP 0))),(oD 3 (.box 48 (tP 1))),(oD 4 (.new 46 [(.bool TA),(.slice QA 0 0)]))]) (.seq (.reg [(fA 5 0 2),(lT 6 2 5),(lT 7 3 3),(oD 8 (.callf (.func 56) [(tP 7)])),(oD 9 (.callf (.func 89) [(.const (.bool TA)),(tP 8)])),(oD 10 (.callf (.func 57) [(tP 6),(tP 9)])),(sT 2 4 10)]) .ret))
theorem cc54:ZA Tryz.prog [] (Tryz.f54.body.getD .skip) = PA c54:=by kernel_rfl
theorem body54:Tryz.f54.body = PA (Tryz.f54.body.getD .skip):=rfl
theorem over_C (a b:RR) (ha:vD a 90000000) (hb:vD b 90000000):YA Tryz.prog 54 [aR a,aR b] (.ret (aW (MC (a.top * b.bot)))):=by
 have hden:=WQ b (by have:=hb.2;omega)
 have hdl:=PH b.den
 have hl:=hb.2
 have hmk:=WG TA (PG b.den) (by omega)
 rw [ri_mk,if_neg (by decide),RD] at hmk
 have hmul:=wmul_C (TJ a) (MC b.bot) (by have:=ha.1;show (UA a.size).length <= _;omega) (by
  rw [HB,ZB,Int.natAbs_natCast]
  have:=hb.bot (by decide)
  omega)
 rw [aG,rawZ_val] at hmul
 generalize MC (b.bot:Int) = t at *
 generalize MC (a.top * b.bot) = u at *
 generalize PG b.den = d at *
 refine WA (rs:=[(RV.cell 4 2 SA)]) Tryz.func54 (fun a w=>Tryz.call54 a w) body54 cc54 (by kernel_rfl) ?_
 rw [Tryz.ntmps54]
 simp only [pC,nA,nS]
 repeat (first | (with_reducible first | refine W8 ?_ | refine VA rfl ?_) | ((with_reducible refine X8 fun K hK=>?_);simp (disch:=first | omega | simp only [sB];omega) only [qB,reduceIte,reduceCtorEq,iT,nA,nS,nM,iA,iS,iM,iN,fU,UB,HB];subst hK) | refine KB (hden) rfl rfl rfl ?_ | refine KB (hmk) rfl rfl rfl ?_ | refine KB (hmul) rfl rfl rfl ?_)
 exact ⟨_,rfl,rfl⟩
abbrev c28:CC:=(.seq (.reg [(oD 2 (.box 48 (tP 0))),(oD 3 (.box 48 (tP 1))),(mI 4 0)]) (.seq (.reg [(lT 5 3 2),(lT 6 3 3),(oD 7 (.callf (.func 54) [(tP 5),(tP 6)])),(lT 8 3 3),(lT 9 3 2),(oD 10 (.callf (.func 54) [(tP 8),(tP 9)])),(oD 11 (.callf (.func 72) [(tP 7),(tP 10)])),(mV 4 11)]) .ret))
theorem cc28:ZA Tryz.prog [] (Tryz.f28.body.getD .skip) = PA c28:=by kernel_rfl
theorem body28:Tryz.f28.body = PA (Tryz.f28.body.getD .skip):=rfl
theorem BL (a b:RR) (ha:vD a 90000000) (hb:vD b 90000000):YA Tryz.prog 28 [aR a,aR b] (.ret (aI (LM a.val b.val))):=by
 have h1:=over_C a b ha hb
 have h2:=over_C b a hb ha
 have l1:=uC a.top.natAbs b.bot
 have l2:=uC b.top.natAbs a.bot
 have:=ha.top;have:=hb.top;have:=ha.bot (by decide);have:=hb.bot (by decide)
 have hc:=wcompare_C (MC (a.top * b.bot)) (MC (b.top * a.bot)) (by rw [HB,ZB,Int.natAbs_mul,Int.natAbs_natCast];omega) (by rw [HB,ZB,Int.natAbs_mul,Int.natAbs_natCast];omega)
 rw [rawZ_val,rawZ_val] at hc
 rw [show yK (a.top * b.bot) (b.top * a.bot) = LM a.val b.val from cmp_mkRat a.bot_ne b.bot_ne] at hc
 generalize LM a.val b.val = x at *
 generalize MC (a.top * b.bot) = u at *
 generalize MC (b.top * a.bot) = v at *
 refine WA (rs:=[(RV.tmp 4)]) Tryz.func28 (fun a w=>Tryz.call28 a w) body28 cc28 (by kernel_rfl) ?_
 rw [Tryz.ntmps28]
 simp only [pC,nA,nS]
 repeat (first | (with_reducible first | refine W8 ?_ | refine VA rfl ?_) | ((with_reducible refine X8 fun K hK=>?_);simp (disch:=first | omega | simp only [sB];omega) only [qB,reduceIte,reduceCtorEq,iT,nA,nS,nM,iA,iS,iM,iN,fU,UB,HB];subst hK) | refine KB (h1) rfl rfl rfl ?_ | refine KB (h2) rfl rfl rfl ?_ | refine KB (hc) rfl rfl rfl ?_)
 exact ⟨_,rfl,rfl⟩
abbrev c20:CC:=(.seq (.reg [(oD 2 (.box 48 (tP 0))),(oD 3 (.box 48 (tP 1))),(oD 4 (.new 48 [(.bool TA),(.slice QA 0 0),(.slice QA 0 0)]))]) (.seq (.reg [(lT 5 3 2),(lT 6 3 3),(oD 7 (.callf (.func 54) [(tP 5),(tP 6)])),(lT 8 3 3),(lT 9 3 2),(oD 10 (.callf (.func 54) [(tP 8),(tP 9)])),(oD 11 (.callf (.func 53) [(tP 7),(tP 10)])),(lT 12 3 2),(oD 13 (.callf (.func 56) [(tP 12)])),(lT 14 3 3),(oD 15 (.callf (.func 56) [(tP 14)])),(oD 16 (.callf (.func 55) [(tP 13),(tP 15)])),(oD 17 (.callf (.func 45) [(tP 11),(tP 16)])),(sT 3 4 17)]) .ret))
theorem cc20:ZA Tryz.prog [] (Tryz.f20.body.getD .skip) = PA c20:=by kernel_rfl
theorem body20:Tryz.f20.body = PA (Tryz.f20.body.getD .skip):=rfl
theorem radd_C (a b:RR) (ha:vD a 9000000) (hb:vD b 9000000):YA Tryz.prog 20 [aR a,aR b] (.ret (aR (eB (a.val + b.val)))):=by
 have h1:=over_C a b (ha.mono (by decide)) (hb.mono (by decide))
 have h2:=over_C b a (hb.mono (by decide)) (ha.mono (by decide))
 have l1:=uC a.top.natAbs b.bot
 have l2:=uC b.top.natAbs a.bot
 have l3:=uC a.bot b.bot
 have l4:=MH (a.top.natAbs * b.bot) (b.top.natAbs * a.bot)
 have l5:(a.top * b.bot + b.top * a.bot).natAbs <= a.top.natAbs * b.bot + b.top.natAbs * a.bot:=by
  have:=Int.natAbs_add_le (a.top * b.bot) (b.top * a.bot)
  rwa [Int.natAbs_mul,Int.natAbs_mul,Int.natAbs_natCast,Int.natAbs_natCast] at this
 have l6:=mC l5
 have:=ha.top;have:=hb.top;have:=ha.bot (by decide);have:=hb.bot (by decide)
 have hs:=wadd_C (MC (a.top * b.bot)) (MC (b.top * a.bot)) (by rw [HB,ZB,Int.natAbs_mul,Int.natAbs_natCast];omega) (by rw [HB,ZB,Int.natAbs_mul,Int.natAbs_natCast];omega)
 rw [rawZ_val,rawZ_val] at hs
 have hd1:=WQ a (by have:=ha.2;omega)
 have hd2:=WQ b (by have:=hb.2;omega)
 have hn1:=PH a.den
 have hn2:=PH b.den
 have hf1:=ha.2
 have hf2:=hb.2
 have hm:=mul_C (PG a.den) (PG b.den) (by omega) (by omega)
 rw [RD,RD] at hm
 have hbb:a.bot * b.bot ≠ 0:=Nat.mul_ne_zero a.bot_ne b.bot_ne
 have hmk:=aH (MC (a.top * b.bot + b.top * a.bot)) (iC (a.bot * b.bot)) (by rw [HB,ZB];omega) (by rw [ZB];omega)
 rw [rawZ_val,OH,rowN_val,if_neg hbb,<- Rat.mkRat_add_mkRat _ _ a.bot_ne b.bot_ne] at hmk
 change YA _ _ _ (.ret (aR (eB (a.val + b.val)))) at hmk
 generalize eB (a.val + b.val) = r at *
 generalize MC (a.top * b.bot + b.top * a.bot) = t at *
 generalize MC (a.top * b.bot) = u at *
 generalize MC (b.top * a.bot) = v at *
 generalize iC (a.bot * b.bot) = w at *
 generalize PG a.den = x at *
 generalize PG b.den = y at *
 refine WA (rs:=[(RV.cell 4 3 SA)]) Tryz.func20 (fun a w=>Tryz.call20 a w) body20 cc20 (by kernel_rfl) ?_
 rw [Tryz.ntmps20]
 simp only [pC,nA,nS]
 repeat (first | (with_reducible first | refine W8 ?_ | refine VA rfl ?_) | ((with_reducible refine X8 fun K hK=>?_);simp (disch:=first | omega | simp only [sB];omega) only [qB,reduceIte,reduceCtorEq,iT,nA,nS,nM,iA,iS,iM,iN,fU,UB,HB];subst hK) | refine KB (h1) rfl rfl rfl ?_ | refine KB (h2) rfl rfl rfl ?_ | refine KB (hs) rfl rfl rfl ?_ | refine KB (hd1) rfl rfl rfl ?_ | refine KB (hd2) rfl rfl rfl ?_ | refine KB (hm) rfl rfl rfl ?_ | refine KB (hmk) rfl rfl rfl ?_)
 exact ⟨_,rfl,rfl⟩
abbrev c21:CC:=(.seq (.reg [(oD 2 (.box 48 (tP 0))),(oD 3 (.box 48 (tP 1))),(oD 4 (.new 48 [(.bool TA),(.slice QA 0 0),(.slice QA 0 0)]))]) (.seq (.reg [(fA 5 0 2),(lT 6 2 5),(fA 7 0 3),(lT 8 2 7),(oD 9 (.callf (.func 57) [(tP 6),(tP 8)])),(lT 10 3 2),(oD 11 (.callf (.func 56) [(tP 10)])),(lT 12 3 3),(oD 13 (.callf (.func 56) [(tP 12)])),(oD 14 (.callf (.func 55) [(tP 11),(tP 13)])),(oD 15 (.callf (.func 45) [(tP 9),(tP 14)])),(sT 3 4 15)]) .ret))
theorem cc21:ZA Tryz.prog [] (Tryz.f21.body.getD .skip) = PA c21:=by kernel_rfl
theorem body21:Tryz.f21.body = PA (Tryz.f21.body.getD .skip):=rfl
theorem kN (a b:RR) (ha:vD a 9000000) (hb:vD b 9000000):YA Tryz.prog 21 [aR a,aR b] (.ret (aR (eB (a.val * b.val)))):=by
 have l1:=uC a.top.natAbs b.top.natAbs
 have l3:=uC a.bot b.bot
 have:=ha.top;have:=hb.top;have:=ha.bot (by decide);have:=hb.bot (by decide)
 have hf1:=ha.2
 have hf2:=hb.2
 have hf3:=ha.1
 have hf4:=hb.1
 have hs:=wmul_C (TJ a) (TJ b) (by show (UA a.size).length <= _;omega) (by show (UA b.size).length <= _;omega)
 rw [aG,aG] at hs
 have hd1:=WQ a (by omega)
 have hd2:=WQ b (by omega)
 have hn1:=PH a.den
 have hn2:=PH b.den
 have hm:=mul_C (PG a.den) (PG b.den) (by omega) (by omega)
 rw [RD,RD] at hm
 have hbb:a.bot * b.bot ≠ 0:=Nat.mul_ne_zero a.bot_ne b.bot_ne
 have hmk:=aH (MC (a.top * b.top)) (iC (a.bot * b.bot)) (by rw [HB,ZB,Int.natAbs_mul];omega) (by rw [ZB];omega)
 rw [rawZ_val,OH,rowN_val,if_neg hbb,<- Rat.mkRat_mul_mkRat] at hmk
 change YA _ _ _ (.ret (aR (eB (a.val * b.val)))) at hmk
 generalize eB (a.val * b.val) = r at *
 generalize MC (a.top * b.top) = t at *
 generalize iC (a.bot * b.bot) = w at *
 generalize PG a.den = x at *
 generalize PG b.den = y at *
 refine WA (rs:=[(RV.cell 4 3 SA)]) Tryz.func21 (fun a w=>Tryz.call21 a w) body21 cc21 (by kernel_rfl) ?_
 rw [Tryz.ntmps21]
 simp only [pC,nA,nS]
 repeat (first | (with_reducible first | refine W8 ?_ | refine VA rfl ?_) | ((with_reducible refine X8 fun K hK=>?_);simp (disch:=first | omega | simp only [sB];omega) only [qB,reduceIte,reduceCtorEq,iT,nA,nS,nM,iA,iS,iM,iN,fU,UB,HB];subst hK) | refine KB (hs) rfl rfl rfl ?_ | refine KB (hd1) rfl rfl rfl ?_ | refine KB (hd2) rfl rfl rfl ?_ | refine KB (hm) rfl rfl rfl ?_ | refine KB (hmk) rfl rfl rfl ?_)
 exact ⟨_,rfl,rfl⟩
end Go.Proofs.YtncgbjhojbnecaaGreat
namespace Go.Proofs.YtncgbjhojbnecaaGreat
open Go Go.Am Go.Proofs Go.Off
open Nat renaming reduceAdd -> nA,reduceSub -> nS,reduceMul -> nM,reduceBEq -> nB
open Int renaming reduceToNat -> iT,reduceAdd -> iA,reduceSub -> iS,reduceMul -> iM,reduceNeg -> iN
theorem len1:(DB 1).length = 1:=by rw [UE (by decide),show 1 / 4294967296 = 0 from rfl,zC];rfl
theorem len_int (n:Int) (h1 : -9223372036854775808 <= n) (h2:n <= 9223372036854775807):(DB n.natAbs).length <= 2:=fC (by simp;omega)
theorem FG (n:Int) (h1 : -9223372036854775808 <= n) (h2:n <= 9223372036854775807):SB (n:Rat) 2:=by
 constructor
 ·rw [Rat.num_intCast];exact len_int n h1 h2
 ·rw [Rat.den_intCast,len1];decide
abbrev c19:CC:=(.seq (.reg [(oD 2 (.new 48 [(.bool TA),(.slice QA 0 0),(.slice QA 0 0)]))]) (.seq (.reg [(mV 3 0),(oD 4 (.callf (.func 51) [(tP 3)])),(oD 5 (.callf (.func 52) [(.const (.int .u64 (1)))])),(oD 6 (.callf (.func 45) [(tP 4),(tP 5)])),(sT 3 2 6)]) .ret))
theorem cc19:ZA Tryz.prog [] (Tryz.f19.body.getD .skip) = PA c19:=by kernel_rfl
theorem body19:Tryz.f19.body = PA (Tryz.f19.body.getD .skip):=rfl
theorem KE (n:Int) (h1 : -9223372036854775808 <= n) (h2:n <= 9223372036854775807):YA Tryz.prog 19 [aI n] (.ret (aR (eB (n:Rat)))):=by
 have hw:=wof_C n h1 h2
 have hof:=of_C 1 (by decide)
 have hl:=len_int n h1 h2
 have hmk:=aH (MC n) (iC 1) (by rw [HB,ZB];omega) (by rw [ZB,len1];decide)
 rw [rawZ_val,OH,rowN_val,if_neg (by decide),show mkRat n 1 = (n:Rat) from by rw [Rat.mkRat_eq_div];grind] at hmk
 generalize eB (n:Rat) = r at *
 generalize MC n = z at *
 generalize iC 1 = o at *
 refine WA (rs:=[(RV.cell 2 3 SA)]) Tryz.func19 (fun a w=>Tryz.call19 a w) body19 cc19 (by kernel_rfl) ?_
 rw [Tryz.ntmps19]
 simp only [pC,nA,nS]
 repeat (first | (with_reducible first | refine W8 ?_ | refine VA rfl ?_) | ((with_reducible refine X8 fun K hK=>?_);simp (disch:=first | omega | simp only [sB];omega) only [qB,reduceIte,reduceCtorEq,iT,nA,nS,nM,iA,iS,iM,iN,fU,UB,HB];subst hK) | refine KB (hw) rfl rfl rfl ?_ | refine KB (hof) rfl rfl rfl ?_ | refine KB (hmk) rfl rfl rfl ?_)
 exact ⟨_,rfl,rfl⟩
abbrev c106:CC:=(.seq (.reg [(oD 1 (.box 48 (tP 0))),(oD 2 (.new 48 [(.bool TA),(.slice QA 0 0),(.slice QA 0 0)]))]) (.seq (.reg [(fA 3 0 1),(lT 4 2 3),(oD 5 (.callf (.func 133) [(tP 4)])),(fA 6 2 1),(lF 7 1 6),(oD 8 (.callf (.func 45) [(tP 5),(tP 7)])),(sT 3 2 8)]) .ret))
theorem cc106:ZA Tryz.prog [] (Tryz.f106.body.getD .skip) = PA c106:=by kernel_rfl
theorem body106:Tryz.f106.body = PA (Tryz.f106.body.getD .skip):=rfl
theorem FT (a:RR) (ha:vD a 9000000):YA Tryz.prog 106 [aR a] (.ret (aR (eB (-a.val)))):=by
 have hf1:=ha.1
 have hf2:=ha.2
 have hn:=wneg_C (TJ a) (by show (UA a.size).length <= _;omega)
 rw [aG] at hn
 have ht:=ha.top
 have hmk:=aH (MC (-a.top)) a.den (by rw [HB,ZB,Int.natAbs_neg];omega) (by omega)
 rw [rawZ_val,RD,show mkRat (-a.top) a.bot = -a.val from by unfold RR.val;rw [Rat.neg_mkRat]] at hmk
 generalize eB (-a.val) = r at *
 generalize MC (-a.top) = z at *
 refine WA (rs:=[(RV.cell 2 3 SA)]) Tryz.func106 (fun a w=>Tryz.call106 a w) body106 cc106 (by kernel_rfl) ?_
 rw [Tryz.ntmps106]
 simp only [pC,nA,nS]
 repeat (first | (with_reducible first | refine W8 ?_ | refine VA rfl ?_) | ((with_reducible refine X8 fun K hK=>?_);simp (disch:=first | omega | simp only [sB];omega) only [qB,reduceIte,reduceCtorEq,iT,nA,nS,nM,iA,iS,iM,iN,fU,UB,HB];subst hK) | refine KB (hn) rfl rfl rfl ?_ | refine KB (hmk) rfl rfl rfl ?_)
 exact ⟨_,rfl,rfl⟩
open Go Go.Am Go.Proofs Go.RowKit Go.Off
open Nat renaming reduceAdd -> nA,reduceSub -> nS,reduceMul -> nM,reduceBEq -> nB
open Int renaming reduceToNat -> iT,reduceAdd -> iA,reduceSub -> iS,reduceMul -> iM,reduceNeg -> iN
def fR (r:RR):List CV:=[.val (.bool r.minus),nr r.size,nr r.den]
abbrev VV:=Option (List RR)
abbrev vr (a:VV):CV:=jB 3 fR a
abbrev aV (a:VV):AV:=.one (.c (vr a))
def zR:RR:=⟨TA,QA,QA⟩
def dF (a:VV) (i:Nat):RR:=(UA a).getD i zR
theorem SB.add1 {a b:Rat} {L M:Nat} (h1:SB a L) (h2:SB b M):SB (a + b) (L + M + 1):=by
 rw [Rat.add_def']
 have hW:(0:Nat) < 4294967296:=by decide
 refine VO _ _ (Nat.mul_ne_zero a.den_nz b.den_nz) ?_ ?_
 ·have l1:∀ {x k:Nat},(DB x).length <= k -> x < 4294967296 ^ k:=fun {x k} h=>by
   have:=IE (DB x)
   rw [FC] at this
   exact HA this (Nat.pow_le_pow_right hW h)
  have a1:=l1 h1.1
  have a2:=l1 h1.2
  have b1:=l1 h2.1
  have b2:=l1 h2.2
  refine fC ?_
  have e4:(a.num * b.den + b.num * a.den).natAbs <= a.num.natAbs * b.den + b.num.natAbs * a.den:=by
   have:=Int.natAbs_add_le (a.num * b.den) (b.num * a.den)
   rwa [Int.natAbs_mul,Int.natAbs_mul,Int.natAbs_natCast,Int.natAbs_natCast] at this
  have e1:=Nat.mul_lt_mul'' a1 b2
  have e2:=Nat.mul_lt_mul'' b1 a2
  rw [<- Nat.pow_add] at e1
  rw [<- Nat.pow_add,Nat.add_comm M L] at e2
  rw [Nat.pow_succ]
  generalize 4294967296 ^ (L + M) = w at *
  omega
 ·have:=uC a.den b.den;have:=h1.2;have:=h2.2;omega
def vC (a:VV) (n L:Nat):Prop:=(UA a).length <= n /\ ∀ r ∈ UA a,vD r L
theorem fits_zR (L:Nat):vD zR L:=⟨fN _,fN _⟩
theorem vC.at {a:VV} {n L:Nat} (h:vC a n L) (i:Nat):vD (dF a i) L:=by
 unfold dF
 rw [bA]
 cases hi:(UA a)[i]? with
 | none=>exact fits_zR L
 | some r=>exact h.2 r (List.mem_of_getElem? hi)
theorem HC (L:Nat) (hL:1 <= L):SB 0 L:=by
 refine ⟨?_,?_⟩
 ·show (DB 0).length <= L;rw [zC];exact fN _
 ·show (DB 1).length <= L;rw [len1];exact hL
theorem OS {a b:RR} {L M:Nat} (h1:vD a L) (h2:vD b M) (hL:1 <= L) (hM:1 <= M):SB (a.val * b.val) (L + M):=(h1.val hL).mul (h2.val hM)
theorem ZG (z:Int):dE z = 0 ↔ z = 0:=by unfold dE;split <;> (try split) <;> omega
theorem bM (r:RR):r.top = 0 ↔ r.val = 0:=by
 unfold RR.val
 rw [Rat.mkRat_eq_zero r.bot_ne]
def jE (a:VV) (i:Nat):Rat:=(dF a i).val
theorem cP:zR.val = 0:=rfl
theorem rAt_out {a:VV} {i:Nat} (h:(UA a).length <= i):dF a i = zR:=by
 simp only [dF,bA];rw [List.getElem?_eq_none_iff.2 h];rfl
theorem fE {a:VV} {i:Nat} (h:i < (UA a).length):dF a i = (UA a)[i]:=by
 simp only [dF,bA];rw [aA h];rfl
def fI (n:Int):List CV:=[.val (.int .i64 n)]
theorem YB (l:List RR) (r:RR):wB fR l ++ [[Cell.c (.val (.bool r.minus)),Cell.c (nr r.size),Cell.c (nr r.den)]] = wB fR (l ++ [r]):=by simp [wB,fR]
abbrev c34_k1:CC:=(.seq (.reg [(mV 18 3),(mV 2 18)]) .ret)
abbrev c34_b1:CC:=(.seq (.reg [(bB 9 .lss 8 7)]) (.seq (.cond (tP 9) .skip (.exit 0)) (.seq (.block 1 (.seq (.reg [(xA 10 1 6 8),(lF 11 1 10),(mV 5 11)]) (.reg [(mV 12 3),(mV 13 5),(oD 14 (.callf (.func 19) [(tP 13)])),(oD 15 (.mkrow 48 3 [(tP 14)])),(oD 16 (.append 48 3 56 (tP 12) (tP 15))),(mV 3 16)]))) (.reg [(bC 17 .add 8 1),(mV 8 17)]))))
abbrev c34:CC:=(.seq (.reg [(oD 2 (.mv nC))]) (.seq (.reg [(oD 3 (.mv nC))]) (.seq (.seq (.reg [(mV 6 0),(nL 7 6),(mI 8 0)]) (.block 0 (.loop c34_b1))) c34_k1)))
theorem cc34:ZA Tryz.prog [] (Tryz.f34.body.getD .skip) = PA c34:=by kernel_rfl
theorem body34:Tryz.f34.body = PA (Tryz.f34.body.getD .skip):=rfl
theorem ints_C (a:List Int) (hl:a.length <= 1000000) (hb:∀ n ∈ a,-9223372036854775808 <= n /\ n <= 9223372036854775807) :
  YA Tryz.prog 34 [.one (.c (jB 1 fI (PA a)))] (.fresh 48 3 ((a.map fun n:Int=>eB (n:Rat)).map fR) (!a.isEmpty)):=by
 refine WA (rs:=[(RV.tmp 2)]) Tryz.func34 (fun a w=>Tryz.call34 a w) body34 cc34 (by kernel_rfl) ?_
 rw [Tryz.ntmps34]
 simp only [pC,nA,nS]
 repeat (first | (with_reducible first | refine W8 ?_ | refine VA rfl ?_) | ((with_reducible refine X8 fun K hK=>?_);simp (disch:=first | omega | simp only [sB];omega) only [qB,reduceIte,reduceCtorEq,iT,nA,nS,nM,iA,iS,iM,iN,fU];subst hK))
 refine uD.fgt ?_ (TB.openNil (i:=3) rfl 48 3)
 simp only [lA,mA,pA,oA,qA,rA,nA]
 refine xB (fun (zz:Nat × (List RR) × Nat × Bool)=>⟨(.one (.c (jB 1 fI (PA a))) :: .junk :: .one (.c (.val (.slice QA 0 0))) :: .one (.own 0 zz.2.2.1) :: .junk :: .junk :: .one (.c (jB 1 fI (PA a))) :: aI a.length :: aI zz.1 :: J8 (.junk :: .junk :: [])),[⟨zz.2.2.1,48,3,wB fR zz.2.1,SA,zz.2.2.2⟩]⟩) (fun (zz:Nat × (List RR) × Nat × Bool)=>zz.1 <= a.length /\ zz.2.1 = (a.take zz.1).map (fun n:Int=>eB (n:Rat)) /\ zz.2.2.2 = !zz.2.1.isEmpty) (fun (zz:Nat × (List RR) × Nat × Bool)=>a.length - zz.1) (0,[],0,TA) ?hI1 (TB.headN (fN 1) [SA,TA,SA,SA,TA,TA,SA,SA,SA]) ?hB1
 ·dsimp only;exact ⟨by omega,rfl,rfl⟩
 rintro ⟨i,out,v,nn⟩ ⟨hi,ho,hnn⟩
 dsimp only at hi ho hnn
 by_cases him:i = a.length
 ·repeat (first | (with_reducible first | refine W8 ?_ | refine VA rfl ?_) | ((with_reducible refine X8 fun K hK=>?_);simp (disch:=first | omega | simp only [sB];omega) only [qB,reduceIte,reduceCtorEq,iT,nA,nS,nM,iA,iS,iM,iN,fU];subst hK))
  refine ⟨_,rfl,?_⟩
  rw [him,List.take_length] at ho
  have he:(!a.isEmpty) = nn:=by rw [hnn,ho];cases a <;> rfl
  rw [he,<- ho]
  exact JD.fresh_enc rfl
 ·have hlt:i < a.length:=by omega
  have hbi:=hb a[i] (gA hlt)
  have hint:=KE a[i] hbi.1 hbi.2
  have hol:out.length = i:=by rw [ho,eA,List.length_take];omega
  repeat (first | (with_reducible first | refine W8 ?_ | refine VA rfl ?_) | ((with_reducible refine X8 fun K hK=>?_);simp (disch:=first | omega | simp only [sB];omega) only [qB,reduceIte,reduceCtorEq,iT,nA,nS,nM,iA,iS,iM,iN,fU,fI];subst hK) | refine KB (hint) rfl rfl rfl ?_)
  refine ⟨(i + 1,out ++ [eB (a[i]:Rat)],v + 1,SA),?hI2,?hM2,TB.head (fN 1) [SA,TA,SA,SA,TA,TA,SA,SA,SA] ?hT2 ?hH2⟩
  case hT2 | hH2=>first | (simp (disch:=omega) only [pD,IB,lB,XA,clean1,uB,reduceIte,iS,iA,iN,YB,kA,KA,LA];done) | rfl
  ·dsimp only
   refine ⟨by omega,?_,by simp⟩
   rw [ho,List.take_succ_eq_append_getElem hlt,List.map_append]
   rfl
  ·dsimp only;omega
theorem qN (a:List Int) (hl:a.length <= 1000000) (hb:∀ n ∈ a,-9223372036854775808 <= n /\ n <= 9223372036854775807):YA Tryz.prog 34 [.one (.c (jB 1 fI (PA a)))] (.ret (aV (aC (a.map fun n:Int=>eB (n:Rat))))) :=
 YA.fresh_rowO ((ints_C a hl hb).to (by cases a <;> rfl))
def vL (r:RR):Bool:=decide ((UA r.size).length <= 3) && decide ((UA r.den).length <= 3)
theorem shortR_fits {r:RR} (h:vL r = SA):vD r 3:=by
 simp only [vL,JA,decide_eq_true_eq] at h
 exact h
def QQ (a:VV) (k:Nat):Bool:=(List.range k).all fun i=>vL (dF a i)
def YJ (a:VV):Bool:=QQ a (min (UA a).length 9) && decide ((UA a).length <= 8)
theorem fewTo_succ (a:VV) (k:Nat):QQ a (k + 1) = (QQ a k && vL (dF a k)):=by
 unfold QQ;rw [List.range_succ,List.all_append];simp
theorem cO {a:VV} {k m:Nat} (hk:k < m) (h:vL (dF a k) = TA):QQ a m = TA:=by
 unfold QQ
 rw [List.all_eq_false]
 exact ⟨k,zA.2 hk,by simp [h]⟩
theorem TI {a:VV} (h:YJ a = SA):vC a 8 3:=by
 simp only [YJ,JA,decide_eq_true_eq] at h
 refine ⟨h.2,fun r hr=>?_⟩
 obtain ⟨i,hi,rfl⟩:=List.getElem_of_mem hr
 have:=List.all_eq_true.1 h.1 i (zA.2 (by omega))
 rw [fE hi] at this
 exact shortR_fits this
abbrev c18_k1:CC:=(.seq (.reg [(mV 31 0),(nL 32 31),(bC 33 .leq 32 8),(mV 2 33)]) .ret)
abbrev c18_b1:CC:=(.seq (.seq (.reg [(mV 4 3),(mV 5 0),(nL 6 5),(bB 7 .lss 4 6),(mV 8 7),(gM 9 8 SA 3),(oG 10 8 SA (.bin .leq (tP 9) (.const (.int .i64 (8))))),(pF 11 8 10)]) (.cond (tP 11) .skip (.exit 0))) (.seq (.block 1 (.seq (.reg [(mV 14 0),(mV 15 3),(xA 16 3 14 15),(fA 17 0 16),(fA 18 1 17),(lF 19 1 18),(nL 20 19),(bC 21 .gtr 20 3),(mV 22 21),(gM 23 22 TA 0),(gM 24 22 TA 3),(oG 25 22 TA (.iaddr 3 QA (tP 23) (tP 24))),(oG 26 22 TA (.faddr 2 (tP 25))),(oG 27 22 TA (.load 1 TA (tP 26))),(oG 28 22 TA (.len TA (tP 27))),(oG 29 22 TA (.bin .gtr (tP 28) (.const (.int .i64 (3))))),(pT 30 22 29)]) (.cond (tP 30) (.seq (.reg [(mB 2 TA)]) .ret) .skip))) (.reg [(mV 12 3),(bC 13 .add 12 1),(mV 3 13)])))
abbrev c18:CC:=(.seq (.reg [(mB 2 TA)]) (.seq (.seq (.reg [(mI 3 0)]) (.block 0 (.loop c18_b1))) c18_k1))
theorem cc18:ZA Tryz.prog [] (Tryz.f18.body.getD .skip) = PA c18:=by kernel_rfl
theorem body18:Tryz.f18.body = PA (Tryz.f18.body.getD .skip):=rfl
theorem bO (a:VV):YA Tryz.prog 18 [aV a] (.ret (aB (YJ a))):=by
 unfold YJ
 refine WA (rs:=[(RV.tmp 2)]) Tryz.func18 (fun a w=>Tryz.call18 a w) body18 cc18 (by kernel_rfl) ?_
 rw [Tryz.ntmps18]
 simp only [pC,nA,nS]
 repeat (first | (with_reducible first | refine W8 ?_ | refine VA rfl ?_) | ((with_reducible refine X8 fun K hK=>?_);simp (disch:=first | omega | simp only [sB];omega) only [qB,reduceIte,reduceCtorEq,iT,nA,nS,nM,iA,iS,iM,iN,fU];subst hK))
 refine xB (fun (zz:Nat)=>⟨(aV a :: .junk :: aB TA :: aI zz :: L8 (J8 (J4 (.junk :: .junk :: [])))),[]⟩) (fun (zz:Nat)=>zz <= min (UA a).length 9 /\ QQ a zz = SA) (fun (zz:Nat)=>10 - zz) (0) ?hI1 (TB.headA (EA _) [SA,TA,SA,SA]) ?hB1
 ·exact ⟨fN _,rfl⟩
 rintro i ⟨hi,hs⟩
 by_cases h1:i < (UA a).length
 ·by_cases h2:i <= 8
  ·have hsh:vL (dF a i) = (decide ((UA (UA a)[i].size).length <= 3) && decide ((UA (UA a)[i].den).length <= 3)):=by unfold vL;rw [fE h1]
   by_cases s1:(UA (UA a)[i].size).length <= 3
   ·by_cases s2:(UA (UA a)[i].den).length <= 3
    ·repeat (first | (with_reducible first | refine W8 ?_ | refine VA rfl ?_) | ((with_reducible refine X8 fun K hK=>?_);simp (disch:=first | omega | simp only [sB];omega) only [qB,reduceIte,reduceCtorEq,iT,nA,nS,nM,iA,iS,iM,iN,fU,fR];subst hK))
     refine ⟨(i + 1),?hI2,?hM2,TB.headA (EA _) [SA,TA,SA,SA]⟩
     ·exact ⟨by omega,by rw [fewTo_succ,hs,hsh,decide_eq_true s1,decide_eq_true s2];rfl⟩
     ·show 10 - (i + 1) < 10 - i;omega
    ·rw [cO (show i < min (UA a).length 9 by omega) (by rw [hsh,decide_eq_false s2];simp)]
     repeat (first | (with_reducible first | refine W8 ?_ | refine VA rfl ?_) | ((with_reducible refine X8 fun K hK=>?_);simp (disch:=first | omega | simp only [sB];omega) only [qB,reduceIte,reduceCtorEq,iT,nA,nS,nM,iA,iS,iM,iN,fU,fR];subst hK))
     exact ⟨_,rfl,rfl⟩
   ·rw [cO (show i < min (UA a).length 9 by omega) (by rw [hsh,decide_eq_false s1];simp)]
    repeat (first | (with_reducible first | refine W8 ?_ | refine VA rfl ?_) | ((with_reducible refine X8 fun K hK=>?_);simp (disch:=first | omega | simp only [sB];omega) only [qB,reduceIte,reduceCtorEq,iT,nA,nS,nM,iA,iS,iM,iN,fU,fR];subst hK))
    exact ⟨_,rfl,rfl⟩
  ·have h9:i = min (UA a).length 9:=by omega
   rw [<- h9,hs,decide_eq_false (by omega)]
   repeat (first | (with_reducible first | refine W8 ?_ | refine VA rfl ?_) | ((with_reducible refine X8 fun K hK=>?_);simp (disch:=first | omega | simp only [sB];omega) only [qB,reduceIte,reduceCtorEq,iT,nA,nS,nM,iA,iS,iM,iN,fU];subst hK))
   exact ⟨_,rfl,rfl⟩
 ·have h9:i = min (UA a).length 9:=by omega
  rw [<- h9,hs]
  by_cases h8:(UA a).length <= 8
  ·rw [decide_eq_true h8]
   repeat (first | (with_reducible first | refine W8 ?_ | refine VA rfl ?_) | ((with_reducible refine X8 fun K hK=>?_);simp (disch:=first | omega | simp only [sB];omega) only [qB,reduceIte,reduceCtorEq,iT,nA,nS,nM,iA,iS,iM,iN,fU];subst hK))
   exact ⟨_,rfl,rfl⟩
  ·rw [decide_eq_false h8]
   repeat (first | (with_reducible first | refine W8 ?_ | refine VA rfl ?_) | ((with_reducible refine X8 fun K hK=>?_);simp (disch:=first | omega | simp only [sB];omega) only [qB,reduceIte,reduceCtorEq,iT,nA,nS,nM,iA,iS,iM,iN,fU];subst hK))
   exact ⟨_,rfl,rfl⟩
theorem cmpQ_pos (a b:Rat):(0 < LM a b) ↔ b < a:=by
 unfold LM
 by_cases h1:a < b
 ·rw [if_pos h1];constructor
  ·intro h;exact absurd h (by decide)
  ·intro h;grind
 ·rw [if_neg h1]
  by_cases h2:b < a
  ·rw [if_pos h2];simp [h2]
  ·rw [if_neg h2];simp [h2]
theorem KW (a b:Rat):(LM a b < 0) ↔ a < b:=by
 unfold LM
 by_cases h1:a < b
 ·rw [if_pos h1];simp [h1]
 ·rw [if_neg h1]
  by_cases h2:b < a
  ·rw [if_pos h2];simp [h1]
  ·rw [if_neg h2];simp [h1]
theorem rd_u32:sD Tryz.prog 140 (fun l=>∃ d:UInt32,True /\ l = fU d):=UC (vS Tryz.underlying140) (by
 rintro l ⟨n,hw,rfl⟩
 have hb:0 <= n /\ n <= 4294967295:=by simpa [Lit.wf,IntKind.min,IntKind.max,IntKind.signed,IntKind.bits] using hw
 refine ⟨UInt32.ofNat n.toNat,trivial,?_⟩
 have:(UInt32.ofNat n.toNat).toNat = n.toNat:=by simp [UInt32.toNat_ofNat,Nat.mod_eq_of_lt (show n.toNat < 4294967296 by omega)]
 simp only [fU,this]
 rw [OA hb.1])
theorem rd_nat:sD Tryz.prog 44 (fun l=>∃ r:iG,l = [nr r]):=UC (MF (k:=1) Tryz.underlying44 (by kernel_rfl) (by decide) (fun a=>rfl) rd_u32) (by
 rintro l ⟨s,_,rfl⟩
 exact ⟨s,rfl⟩)
theorem rd_bool:sD Tryz.prog 4 (fun l=>∃ b:Bool,l = [.val (.bool b)]):=reads_bool Tryz.underlying4
theorem rd_int:sD Tryz.prog 3 (fun l=>∃ n:Int,(-9223372036854775808 <= n /\ n <= 9223372036854775807) /\ l = [.val (.int .i64 n)]):=UC (vS Tryz.underlying3) (by
 rintro l ⟨n,hw,rfl⟩
 exact ⟨n,by simpa [Lit.wf,IntKind.min,IntKind.max,IntKind.signed,IntKind.bits] using hw,rfl⟩)
theorem rd_whole:sD Tryz.prog 46 (fun l=>∃ (b:Bool) (r:iG),l = [.val (.bool b),nr r]):=UC (iL (c0:=1) (c1:=1) Tryz.underlying46 rfl (by kernel_rfl) rfl (by kernel_rfl) (by kernel_rfl) rd_bool rd_nat) (by
 rintro l ⟨l0,l1,⟨b,rfl⟩,⟨r,rfl⟩,rfl⟩
 exact ⟨b,r,rfl⟩)
theorem rd_rat:sD Tryz.prog 48 (fun l=>∃ r:RR,True /\ l = fR r):=UC (iL (c0:=2) (c1:=1) Tryz.underlying48 rfl (by kernel_rfl) rfl (by kernel_rfl) (by kernel_rfl) rd_whole rd_nat) (by
 rintro l ⟨l0,l1,⟨b,s,rfl⟩,⟨d,rfl⟩,rfl⟩
 exact ⟨⟨b,s,d⟩,trivial,rfl⟩)
theorem JT:sD Tryz.prog 23 (fun l=>∃ a:VV,l = [vr a]):=UC (MF (k:=3) Tryz.underlying23 (by kernel_rfl) (by decide) (fun a=>rfl) rd_rat) (by
 rintro l ⟨s,_,rfl⟩
 exact ⟨s,rfl⟩)
end Go.Proofs.YtncgbjhojbnecaaGreat
namespace Go.Proofs.YtncgbjhojbnecaaGreat
open Go Go.Am Go.Proofs Go.RowKit Go.Shelf Go.Off
open Nat renaming reduceAdd -> nA,reduceSub -> nS,reduceMul -> nM,reduceBEq -> nB
open Int renaming reduceToNat -> iT,reduceAdd -> iA,reduceSub -> iS,reduceMul -> iM,reduceNeg -> iN
attribute [local go_sem] Oper.semAt_some
def vI (f:Nat -> Nat -> Value) (len:Nat):List (List CV):=(List.range len).map fun i=>[.val (f i 0),.val (f i 1),.val (f i 2)]
theorem CH (f:Nat -> Nat -> Value) (len:Nat):(vI f len).length = len:=by simp [vI]
theorem HK (f:Nat -> Nat -> Value) {len i:Nat} (h:i < len):(vI f len)[i]? = PA [.val (f i 0),.val (f i 1),.val (f i 2)]:=by simp [vI,h]
theorem pS {w:World} {bad:Nat -> Prop} {f:Nat -> Nat -> Value} {b off len cap:Nat} (h1:∀ i j,(f i j).oneCell' = SA) (hcap:len <= cap) (hb:¬ bad b) (hl:b < w.heap.size)
  (hc:∀ i j,i < len -> j < 3 -> w.cell? ⟨b,off + (i * 3 + j),QA⟩ = PA (f i j)):CR w bad (.sl 3 (vI f len)) (.slice (PA ⟨b,off,QA⟩) len cap):=by
 have:=CR.sl (w:=w) (bad:=bad) 3 (vI f len) b off cap f (by rw [CH];exact hcap) hb hl (fun i r hr=>?_) (fun i j hi hj=>hc i j (by rwa [CH] at hi) hj) (fun i j r x hr hx=>?_)
 ·rwa [CH] at this
 ·have hi:=(dA.1 hr).1
  rw [CH] at hi
  rw [HK f hi] at hr
  cases hr;rfl
 ·have hi:=(dA.1 hr).1
  rw [CH] at hi
  rw [HK f hi] at hr
  cases hr
  match j,hx with
  | 0,hx=>cases hx;exact .val _ (h1 _ _)
  | 1,hx=>cases hx;exact .val _ (h1 _ _)
  | 2,hx=>cases hx;exact .val _ (h1 _ _)
abbrev pre158:List CO:=[⟨(PA 13),QA,(COp.mv (Operand.tmp 0))⟩,⟨(PA 14),QA,(COp.mv (Operand.tmp 4))⟩,⟨(PA 15),QA,(COp.load 1 TA (Operand.tmp 1))⟩,⟨(PA 16),QA,(COp.mv (Operand.tmp 4))⟩,⟨(PA 17),QA,(COp.iaddr 3 QA (Operand.tmp 15) (Operand.tmp 16))⟩,⟨(PA 18),QA,(COp.load 3 SA (Operand.tmp 17))⟩,⟨(PA 19),QA,(COp.load 1 TA (Operand.tmp 2))⟩,⟨(PA 20),QA,(COp.mv (Operand.tmp 4))⟩,⟨(PA 21),QA,(COp.iaddr 3 QA (Operand.tmp 19) (Operand.tmp 20))⟩,⟨(PA 22),QA,(COp.load 3 SA (Operand.tmp 21))⟩,⟨(PA 23),QA,(COp.build [(Value.bool TA),(Value.slice QA 0 0),(Value.slice QA 0 0),(Value.bool TA),(Value.slice QA 0 0),(Value.slice QA 0 0)] [(0,(3,(Operand.tmp 18))),(3,(3,(Operand.tmp 22)))])⟩]
theorem YC {w:World} {bad:Nat -> Prop} {h:List Blk} {hd:Nat -> Value} {v u:Value} (hx:AVR w bad h hd (.one (.c (.val v))) u):v = u:=by
 cases hx with
 | one _ _ hx=>cases hx with
  | c _ _ hx=>cases hx;rfl
theorem avr_aggv {w:World} {bad:Nat -> Prop} {h:List Blk} {hd:Nat -> Value} {l:List Value} {u:Value} (hx:AVR w bad h hd (.agg (l.map fun v=>.c (.val v))) u):u = .agg l.toArray:=by
 cases hx with
 | agg _ vs hl hv =>
  congr 2
  apply List.ext_getElem?
  intro i
  rw [eA] at hl
  cases hi:vs[i]? with
  | none=>rw [List.getElem?_eq_none_iff] at hi;exact (List.getElem?_eq_none_iff.2 (by omega)).symm
  | some v =>
   have hlt:i < l.length:=by rw [hl];exact (dA.1 hi).1
   have:=hv i (.c (.val l[i])) v (by rw [List.getElem?_map,aA hlt];rfl) hi
   cases this with
   | c _ _ hx=>cases hx;rw [aA hlt]
def G158 (base:Array Value) (a:Act):Prop:=a.defers = [] /\ ∀ i:Nat,i < 13 -> a.tmps[i]? = base[i]?
theorem G158_put {base:Array Value}:∀ co ∈ pre158,∀ a v,G158 base a -> G158 base (a.put co.dst v):=by
 intro co hco a v ⟨h1,h2⟩
 have hd:∃ d:Nat,co.dst = PA d /\ 13 <= d:=by
  simp only [pre158,List.mem_cons,List.not_mem_nil,or_false] at hco
  rcases hco with rfl | rfl | rfl | rfl | rfl | rfl | rfl | rfl | rfl | rfl | rfl <;> exact ⟨_,rfl,by decide⟩
 obtain ⟨d,hd,hlt⟩:=hd
 rw [hd]
 refine ⟨h1,fun i hi=>?_⟩
 show (a.tmps.setIfInBounds d v)[i]? = _
 rw [Array.getElem?_setIfInBounds,if_neg (show ¬ d = i by omega)]
 exact h2 i hi
set_option maxRecDepth 100000 in
set_option maxHeartbeats 4000000 in
theorem pairs1_in (F:Fence) (hF:F.fn 114) (hro:F.round = QA) (hFw:∃ _:Unit,F = Wd QA) (n:Nat) (hn:1 <= n) (l As oa Bs ob:Nat) (ba offa lena capa bb offb lenb capb m:Nat) (hm:m = min lena lenb) (w:World) (bad:Nat -> Prop) (f g:Nat -> Nat -> Value) (h1:∀ i j,(f i j).oneCell' = SA) (h2:∀ i j,(g i j).oneCell' = SA)
  (hla:lena <= 1000000000000) (hlb:lenb <= 1000000000000) (hAl:As < w.heap.size) (hAn:¬ bad As) (hBl:Bs < w.heap.size) (hBn:¬ bad Bs) (hal:ba < w.heap.size) (han:¬ bad ba) (hbl:bb < w.heap.size) (hbn:¬ bad bb) (J Jx:List Nat -> World -> Prop) (W:World)
  (hY:∀ pre (x:Nat) W,J pre W -> pre.length < m -> x < m -> YieldAt F (n - 1) Tryz.prog l #[.int .i64 (x:Int),.agg #[f x 0,f x 1,f x 2,g x 0,g x 1,g x 2]] W fun e W' =>
   ∃ b,e = .returned (.bool b) /\ (b = SA -> J (pre ++ [x]) W' /\ RL w bad W W') /\ (b = TA -> Jx (pre ++ [x]) W'))
  (hJd:∀ pre W W',J pre W -> W.grownBy W' QA -> J pre W') (hbad:∀ g,bad g -> g < w.heap.size) (hwW:w.heap.size <= W.heap.size) (hcapa:lena <= capa) (hcapb:lenb <= capb)
  (hAs:W.cell? ⟨As,oa,QA⟩ = PA (.slice (PA ⟨ba,offa,QA⟩) lena capa)) (hBs:W.cell? ⟨Bs,ob,QA⟩ = PA (.slice (PA ⟨bb,offb,QA⟩) lenb capb))
  (hca:∀ i j,i < lena -> j < 3 -> W.cell? ⟨ba,offa + (i * 3 + j),QA⟩ = PA (f i j)) (hcb:∀ i j,i < lenb -> j < 3 -> W.cell? ⟨bb,offb + (i * 3 + j),QA⟩ = PA (g i j)) (h0:J [] W) :
  CallsIn F n Tryz.prog 114 #[.func (.yield l) #[] #[],.pointer (PA ⟨As,oa,QA⟩),.pointer (PA ⟨Bs,ob,QA⟩)] W fun e W'=>(∃ v,e = .returned v) /\
   ((∃ ys,ys = List.range (m) /\ J ys W') \/ (∃ pre,(∃ k,k <= m /\ pre = List.range k) /\ Jx pre W')):=by
 refine callsIn_of_wp Tryz.func114 rfl hF ?_ hro
 simp only [Tryz.ntmps114,List.size_toArray,oA,pA,nA,nS,Array.replicate_succ,Array.replicate_zero,List.push_toArray,List.append_toArray,qA,rA]
 gi_wp2
 all_goals
  first
   | (have hmin:((lena:Nat):Int) = (m:Int):=by omega
      rw [hmin])
   | (have hmin:((lenb:Nat):Int) = (m:Int):=by omega
      rw [hmin])
  clear hmin
  have hma:m <= lena:=by omega
  have hmb:m <= lenb:=by omega
  gi_loopw [10] (fun i wr=>∃ k:Nat,k <= m /\ i = .int .i64 (k:Int) /\ J (List.range k) wr /\ RL w bad W wr)
   (fun i _=>((m:Int) - intOf i).toNat)
  case atStart=>exact ⟨0,by omega,rfl,by simpa using h0,⟨EA _,fun _ _ _ _ _ _ h=>h⟩⟩
  case round =>
   obtain ⟨k,hk,rfl,hJs,hnx⟩:=hrel
   by_cases hkm:k = m
   ·subst hkm
    gi_wp2
    go_end0
    exact ⟨⟨_,rfl⟩,.inl ⟨_,rfl,hJs⟩⟩
   ·have hA2:wr.cell? ⟨As,oa,QA⟩ = PA (.slice (PA ⟨ba,offa,QA⟩) lena capa):=QK hnx hAl hAn hAs
    have hB2:wr.cell? ⟨Bs,ob,QA⟩ = PA (.slice (PA ⟨bb,offb,QA⟩) lenb capb):=QK hnx hBl hBn hBs
    have hwr:w.heap.size <= wr.heap.size:=GA hwW hnx.1
    have cA:CR wr bad (.sl 3 (vI f lena)) _:=pS h1 hcapa han (by omega) (fun i j hi hj=>QK hnx hal han (hca i j hi hj))
    have cB:CR wr bad (.sl 3 (vI g lenb)) _:=pS h2 hcapb hbn (by omega) (fun i j hi hj=>QK hnx hbl hbn (hcb i j hi hj))
    have ra:=HK f (len:=lena) (i:=k) (by omega)
    have rb:=HK g (len:=lenb) (i:=k) (by omega)
    generalize vI f lena = RA at cA ra
    generalize vI g lenb = RB at cB rb
    have hbw:(∀ g,bad g -> g < wr.heap.size) /\ GB bad wr.heap.size wr:=⟨fun g hg=>by have:=hbad g hg;omega,fun g l hl=>by cases hl⟩
    have vA:VR wr bad [] bE (.iptr [.sl 3 RA]) (.pointer (PA ⟨As,oa,QA⟩)):=.iptr _ As oa (fun _=>.slice (PA ⟨ba,offa,QA⟩) lena capa) hAn (by omega) (fun j x hj=>by match j,hj with | 0,_=>exact hA2) (fun j x hj=>by match j,hj with | 0,hj=>cases hj;exact cA)
    have vB:VR wr bad [] bE (.iptr [.sl 3 RB]) (.pointer (PA ⟨Bs,ob,QA⟩)):=.iptr _ Bs ob (fun _=>.slice (PA ⟨bb,offb,QA⟩) lenb capb) hBn (by omega) (fun j x hj=>by match j,hj with | 0,_=>exact hB2) (fun j x hj=>by match j,hj with | 0,hj=>cases hj;exact cB)
    have hmx:Tryz.prog.follows .mixedOrders = SA:=by kernel_rfl
    gi_wp2
    obtain ⟨_,rfl⟩:=hFw
    refine region_pre' (opn:=[]) (X:=X0 wr bad hbw) (m:=11) (k:=2) (cos:=pre158) (st:=⟨[.one (.c (.val (.func (.yield l) #[] #[]))),.one (.iptr [.sl 3 RA]),.one (.iptr [.sl 3 RB]),.junk,aI k] ++ jA 22 .junk,[]⟩)
     (st1:=⟨[.one (.c (.val (.func (.yield l) #[] #[]))),.one (.iptr [.sl 3 RA]),.one (.iptr [.sl 3 RB]),.junk,aI k,.junk,.junk,.junk,.junk,.junk,.junk,.junk,.junk,.one (.c (.val (.func (.yield l) #[] #[]))),aI k,.one (.c (.sl 3 RA)),aI k,.one (.iptr [.val (f k 0),.val (f k 1),.val (f k 2)]),.agg [.c (.val (f k 0)),.c (.val (f k 1)),.c (.val (f k 2))],.one (.c (.sl 3 RB)),aI k,.one (.iptr [.val (g k 0),.val (g k 1),.val (g k 2)]),.agg [.c (.val (g k 0)),.c (.val (g k 1)),.c (.val (g k 2))],.agg [.c (.val (f k 0)),.c (.val (f k 1)),.c (.val (f k 2)),.c (.val (g k 0)),.c (.val (g k 1)),.c (.val (g k 2))],.junk,.junk,.junk],[]⟩) hmx rfl (by kernel_rfl) (by kernel_rfl) (by kernel_rfl) (by kernel_rfl) G158_put ⟨rfl,fun _ _=>rfl⟩ (rel_closed hbw rfl (.cons (.one _ _ (.c _ _ (.val _ rfl))) (.cons (.one _ _ vA) (.cons (.one _ _ vB) (.cons (.junk _) (.cons (.one _ _ (.c _ _ (.val _ rfl))) (.cons (.junk _) (.cons (.junk _) (.cons (.junk _) (.cons (.junk _) (.cons (.junk _) (.cons (.junk _) (.cons (.junk _) (.cons (.junk _) (.cons (.junk _) (.cons (.junk _) (.cons (.junk _) (.cons (.junk _) (.cons (.junk _) (.cons (.junk _) (.cons (.junk _) (.cons (.junk _) (.cons (.junk _) (.cons (.junk _) (.cons (.junk _) (.cons (.junk _) (.cons (.junk _) (.cons (.junk _) (.nil))))))))))))))))))))))))))))) ?_ ?_
    ·simp [dC,cev,cstep,St.ev,VC,nI,ra,rb,ZF,OR,aI,AV.int?,AV.cells?,Function.comp]
    ·intro hd' a' w' R hG
     have hgr:=R.grown_none
     have hp:=R.slots
     obtain ⟨tm,df⟩:=a'
     dsimp only at hp
     obtain ⟨g0,gs⟩:=hG
     dsimp only at g0
     obtain ⟨v0,q0,e0,p0,hp⟩:=PW.inv hp
     obtain ⟨v1,q1,e1,p1,hp⟩:=PW.inv hp
     obtain ⟨v2,q2,e2,p2,hp⟩:=PW.inv hp
     obtain ⟨v3,q3,e3,p3,hp⟩:=PW.inv hp
     obtain ⟨v4,q4,e4,p4,hp⟩:=PW.inv hp
     obtain ⟨v5,q5,e5,p5,hp⟩:=PW.inv hp
     obtain ⟨v6,q6,e6,p6,hp⟩:=PW.inv hp
     obtain ⟨v7,q7,e7,p7,hp⟩:=PW.inv hp
     obtain ⟨v8,q8,e8,p8,hp⟩:=PW.inv hp
     obtain ⟨v9,q9,e9,p9,hp⟩:=PW.inv hp
     obtain ⟨v10,q10,e10,p10,hp⟩:=PW.inv hp
     obtain ⟨v11,q11,e11,p11,hp⟩:=PW.inv hp
     obtain ⟨v12,q12,e12,p12,hp⟩:=PW.inv hp
     obtain ⟨v13,q13,e13,p13,hp⟩:=PW.inv hp
     obtain ⟨v14,q14,e14,p14,hp⟩:=PW.inv hp
     obtain ⟨v15,q15,e15,p15,hp⟩:=PW.inv hp
     obtain ⟨v16,q16,e16,p16,hp⟩:=PW.inv hp
     obtain ⟨v17,q17,e17,p17,hp⟩:=PW.inv hp
     obtain ⟨v18,q18,e18,p18,hp⟩:=PW.inv hp
     obtain ⟨v19,q19,e19,p19,hp⟩:=PW.inv hp
     obtain ⟨v20,q20,e20,p20,hp⟩:=PW.inv hp
     obtain ⟨v21,q21,e21,p21,hp⟩:=PW.inv hp
     obtain ⟨v22,q22,e22,p22,hp⟩:=PW.inv hp
     obtain ⟨v23,q23,e23,p23,hp⟩:=PW.inv hp
     obtain ⟨v24,q24,e24,p24,hp⟩:=PW.inv hp
     obtain ⟨v25,q25,e25,p25,hp⟩:=PW.inv hp
     obtain ⟨v26,q26,e26,p26,hp⟩:=PW.inv hp
     have hqq:q26 = []:=List.eq_nil_of_length_eq_zero hp.1.symm
     subst hqq
     subst e26
     subst e25
     subst e24
     subst e23
     subst e22
     subst e21
     subst e20
     subst e19
     subst e18
     subst e17
     subst e16
     subst e15
     subst e14
     subst e13
     subst e12
     subst e11
     subst e10
     subst e9
     subst e8
     subst e7
     subst e6
     subst e5
     subst e4
     subst e3
     subst e2
     subst e1
     have et:=congrArg List.toArray e0
     rw [Array.toArray_toList] at et
     clear e0
     subst et
     subst g0
     simp only [List.getElem?_toArray] at gs
     obtain rfl:=Option.some.inj (gs 0 (by decide))
     obtain rfl:=Option.some.inj (gs 1 (by decide))
     obtain rfl:=Option.some.inj (gs 2 (by decide))
     obtain rfl:=Option.some.inj (gs 3 (by decide))
     obtain rfl:=Option.some.inj (gs 4 (by decide))
     obtain rfl:=Option.some.inj (gs 5 (by decide))
     obtain rfl:=Option.some.inj (gs 6 (by decide))
     obtain rfl:=Option.some.inj (gs 7 (by decide))
     obtain rfl:=Option.some.inj (gs 8 (by decide))
     obtain rfl:=Option.some.inj (gs 9 (by decide))
     obtain rfl:=Option.some.inj (gs 10 (by decide))
     obtain rfl:=Option.some.inj (gs 11 (by decide))
     obtain rfl:=Option.some.inj (gs 12 (by decide))
     obtain rfl:=YC p13
     obtain rfl:=YC p14
     obtain rfl:=avr_aggv (l:=[f k 0,f k 1,f k 2,g k 0,g k 1,g k 2]) p23
     clear p0 p1 p2 p3 p4 p5 p6 p7 p8 p9 p10 p11 p12 p13 p14 p15 p16 p17 p18 p19 p20 p21 p22 p23 p24 p25 p26
     obtain ⟨fn,tmps,assign,body,hy,hR⟩:=hY _ k w' (hJd _ _ _ hJs hgr) (by rw [List.length_range];omega) (by omega)
     show wpOpsIn _ _ _ _ _ [11,12] _ _
     rw [wpOpsIn_cons]
     refine WL rfl rfl ⟨fun f _=>trivial,?_⟩
     go_simp
     refine hR.mono ?_
     rintro e W3 ⟨b,rfl,hbt,hbf⟩
     show wpOpsIn _ _ _ _ _ [12] _ _
     rw [wpOpsIn_cons]
     refine WL rfl rfl ⟨fun f _=>trivial,?_⟩
     go_simp
     show Exit.then _ _ .normal _ _
     cases b
     ·gi_wp2
      refine bodyPost_ret (results_none rfl _ _ _) rfl ?_
      exact ⟨⟨_,rfl⟩,.inr ⟨_,⟨k + 1,by omega,List.range_succ.symm⟩,hbf (by simp)⟩⟩
     ·obtain ⟨hJ3,hk3⟩:=hbt rfl
      gi_wp2
      go_roundw
      case rel=>exact ⟨k + 1,by omega,by simp,by rw [List.range_succ];exact hJ3,⟨GA (GA hnx.1 hgr.size) hk3.1,fun g hg hb cs t o h=>hk3.2 g hg hb cs t o ((hgr.block g (by omega) (by simp)).trans (hnx.2 g hg hb cs t o h))⟩⟩
      case measure=>simp [intOf];omega
set_option maxRecDepth 100000 in
set_option maxHeartbeats 2000000 in
theorem LR (F:Fence) (hF:F.fn 114) (hro:F.round = QA) (n:Nat) (l As oa Bs ob:Nat) (pa pb:Option Addr) (lena capa lenb capb:Nat) (hz:lena = 0 \/ lenb = 0) (J:List Nat -> World -> Prop) (W:World)
  (hAs:W.cell? ⟨As,oa,QA⟩ = PA (.slice pa lena capa)) (hBs:W.cell? ⟨Bs,ob,QA⟩ = PA (.slice pb lenb capb)) (h0:J [] W) :
  CallsIn F n Tryz.prog 114 #[.func (.yield l) #[] #[],.pointer (PA ⟨As,oa,QA⟩),.pointer (PA ⟨Bs,ob,QA⟩)] W fun e W'=>(∃ v,e = .returned v) /\ J [] W':=by
 refine callsIn_of_wp Tryz.func114 rfl hF ?_ hro
 simp only [Tryz.ntmps114,List.size_toArray,oA,pA,nA,nS,Array.replicate_succ,Array.replicate_zero,List.push_toArray,List.append_toArray,qA,rA]
 gi_wp2
 all_goals
  gi_loopw [10] (fun i wr=>i = .int .i64 0 /\ J [] wr) (fun _ _=>0)
  case atStart=>exact ⟨rfl,h0⟩
  case round =>
   obtain ⟨rfl,hJs⟩:=hrel
   have h00:¬ ((0:Int) < lena) \/ ¬ ((0:Int) < lenb):=by omega
   gi_wp2
   all_goals first
    | (exfalso;omega)
    | skip
   go_end0
   exact ⟨⟨_,rfl⟩,hJs⟩
end Go.Proofs.YtncgbjhojbnecaaGreat
namespace Go.Proofs.YtncgbjhojbnecaaGreat
open Go Go.Am Go.Proofs Go.RowKit Go.Shelf Go.Off
open Nat renaming reduceAdd -> nA,reduceSub -> nS,reduceMul -> nM,reduceBEq -> nB
open Int renaming reduceToNat -> iT,reduceAdd -> iA,reduceSub -> iS,reduceMul -> iM,reduceNeg -> iN
theorem fR_len (r:RR):(fR r).length = 3:=rfl
theorem dflt_cr {w:World} {bad:Nat -> Prop} {j:Nat} {c:CV} (h:(fR zR)[j]? = PA c):CR w bad c (if j = 0 then .bool TA else .slice QA 0 0):=by
 match j,h with
 | 0,h=>cases h;exact .val _ rfl
 | 1,h=>cases h;exact .val _ rfl
 | 2,h=>cases h;exact .val _ rfl
theorem vr_view {w:World} {bad:Nat -> Prop} {a:VV} {s:Value} (h:CR w bad (vr a) s):∃ (p:Option Addr) (cap:Nat) (f:Nat -> Nat -> Value),s = .slice p (UA a).length cap /\ (UA a).length <= cap /\ (∀ i j,(f i j).oneCell' = SA) /\
  (∀ i j c,(fR (dF a i))[j]? = PA c -> CR w bad c (f i j)) /\ ((UA a).length ≠ 0 -> ∃ g off,p = PA ⟨g,off,QA⟩ /\ ¬ bad g /\ g < w.heap.size /\ ∀ i j,i < (UA a).length -> j < 3 -> w.cell? ⟨g,off + (i * 3 + j),QA⟩ = PA (f i j)):=by
 cases a with
 | none =>
  cases h with
  | val _ _ =>
   refine ⟨QA,0,fun i j=>if j = 0 then .bool TA else .slice QA 0 0,rfl,EA _,fun i j=>by dsimp only;split <;> rfl,fun i j c hc=>?_,fun h0=>absurd rfl h0⟩
   have:dF QA i = zR:=rfl
   rw [this] at hc
   exact dflt_cr hc
 | some l =>
  change CR w bad (.sl 3 (l.map fR)) s at h
  generalize hlm:l.map fR = lm at h
  cases h with
  | emp _ ad =>
   obtain rfl:l = []:=by simpa using hlm
   refine ⟨PA ad,0,fun i j=>if j = 0 then .bool TA else .slice QA 0 0,rfl,EA _,fun i j=>by dsimp only;split <;> rfl,fun i j c hc=>?_,fun h0=>absurd rfl h0⟩
   have:dF (PA []) i = zR:=rfl
   rw [this] at hc
   exact dflt_cr hc
  | sl _ _ g off cap f hcap hbad hlt hrow hc hv =>
   subst hlm
   rw [eA] at hcap hc
   have hf:∀ i j c,i < l.length -> (fR (dF (PA l) i))[j]? = PA c -> CR w bad c (f i j):=fun i j c hi hcj=>by
    refine hv i j (fR (dF (PA l) i)) c ?_ hcj
    have:dF (PA l) i = l[i]:=by simp [dF,osl_some,hi]
    rw [this,List.getElem?_map,aA hi]
    rfl
   refine ⟨PA ⟨g,off,QA⟩,cap,fun i j=>if i < l.length /\ j < 3 then f i j else if j = 0 then .bool TA else .slice QA 0 0,by rw [eA];rfl,hcap,fun i j=>?_,fun i j c hcj=>?_,fun _=>⟨g,off,rfl,hbad,hlt,fun i j hi hj=>?_⟩⟩
   ·dsimp only
    split
    ·rename_i hij
     have hlt3:j < (fR (dF (PA l) i)).length:=hij.2
     exact (hf i j _ hij.1 (aA hlt3)).oneCell
    ·split <;> rfl
   ·dsimp only
    have hj:j < 3:=by have:=(dA.1 hcj).1;rwa [fR_len] at this
    by_cases hi:i < l.length
    ·rw [if_pos ⟨hi,hj⟩];exact hf i j c hi hcj
    ·rw [if_neg (fun h=>hi h.1)]
     have:dF (PA l) i = zR:=by simp only [dF,osl_some,bA];rw [List.getElem?_eq_none_iff.2 (by omega)];rfl
     rw [this] at hcj
     exact dflt_cr hcj
   ·dsimp only
    rw [if_pos ⟨hi,hj⟩]
    exact hc i j hi hj
abbrev dP (a b:VV):Nat:=min (UA a).length (UA b).length
abbrev pairAV (a b:VV) (k:Nat):List AV:=[aI (k:Int),.agg ((fR (dF a k) ++ fR (dF b k)).map .c)]
theorem pairs_iter (a b:VV) (hla:(UA a).length <= 1000000000000) (hlb:(UA b).length <= 1000000000000) :
  oT Tryz.prog 114 [.iptr [vr a],.iptr [vr b]] (pairAV a b) 2 (fun xs=>xs = List.range (dP a b)) (fun pre=>∃ k,k <= dP a b /\ pre = List.range k) (dP a b):=by
 refine ⟨fun a w=>Tryz.call114 a w,fun k=>rfl,fun w bad vs hbad hvs=>?_⟩
 obtain ⟨v0,q0,rfl,hv0,hvs⟩:=PW.inv hvs
 obtain ⟨v1,q1,rfl,hv1,hvs⟩:=PW.inv hvs
 obtain rfl:q1 = []:=List.eq_nil_of_length_eq_zero hvs.1.symm
 cases hv0 with
 | iptr _ As oa fa hAn hAl hca hva =>
 cases hv1 with
 | iptr _ Bs ob fb hBn hBl hcb hvb =>
 have cellA:=hca 0 (vr a) rfl
 have crA:=hva 0 (vr a) rfl
 have cellB:=hcb 0 (vr b) rfl
 have crB:=hvb 0 (vr b) rfl
 generalize fa 0 = sa at cellA crA
 generalize fb 0 = sb at cellB crB
 clear hca hva hcb hvb
 obtain ⟨pa,capa,f,rfl,hcapa,h1,hf,hA⟩:=vr_view crA
 obtain ⟨pb,capb,g,rfl,hcapb,h2,hg,hB⟩:=vr_view crB
 refine ⟨fun k=>[.int .i64 (k:Int),.agg #[f k 0,f k 1,f k 2,g k 0,g k 1,g k 2]],fun k=>.cons (.one _ _ (.c _ _ (.val _ rfl))) (.cons ?_ .nil),fun n=>?_⟩
 ·refine .agg _ [f k 0,f k 1,f k 2,g k 0,g k 1,g k 2] rfl (fun i c v hc hv=>?_)
  match i,hc,hv with
  | 0,hc,hv=>cases hc;cases hv;exact .c _ _ (hf k 0 _ rfl)
  | 1,hc,hv=>cases hc;cases hv;exact .c _ _ (hf k 1 _ rfl)
  | 2,hc,hv=>cases hc;cases hv;exact .c _ _ (hf k 2 _ rfl)
  | 3,hc,hv=>cases hc;cases hv;exact .c _ _ (hg k 0 _ rfl)
  | 4,hc,hv=>cases hc;cases hv;exact .c _ _ (hg k 1 _ rfl)
  | 5,hc,hv=>cases hc;cases hv;exact .c _ _ (hg k 2 _ rfl)
 ·intro ll J Jx W hW hJ hJx hY h0
  have hAW:W.cell? ⟨As,oa,QA⟩ = _:=(hW.cell (p:=⟨As,oa,QA⟩) hAl).trans cellA
  have hBW:W.cell? ⟨Bs,ob,QA⟩ = _:=(hW.cell (p:=⟨Bs,ob,QA⟩) hBl).trans cellB
  by_cases hz:(UA a).length = 0 \/ (UA b).length = 0
  ·refine (LR (Wd QA) trivial rfl n ll As oa Bs ob pa pb _ capa _ capb hz J W hAW hBW h0).mono ?_
   rintro e W' ⟨he,hj⟩
   have hm0:dP a b = 0:=by
    show min (UA a).length (UA b).length = 0
    omega
   exact ⟨he,.inl ⟨[],(by rw [hm0];rfl),hj⟩⟩
  ·obtain ⟨ga,offa,rfl,hgan,hgal,hcA⟩:=hA (by omega)
   obtain ⟨gb,offb,rfl,hgbn,hgbl,hcB⟩:=hB (by omega)
   refine eT (pairs1_in (Wd QA) trivial rfl ⟨(),rfl⟩ (n + 1) (by omega) ll As oa Bs ob ga offa _ capa gb offb _ capb (dP a b) rfl w bad f g h1 h2 hla hlb hAl hAn hBl hBn hgal hgan hgbl hgbn J Jx W (fun pre x W1 hj hl hx=>?_) (fun pre A B hj hgr=>hJ pre A B QA hj hgr (by simp)) hbad.1 hW.size hcapa hcapb hAW hBW
    (fun i j hi hj=>(hW.cell (p:=⟨ga,offa + (i * 3 + j),QA⟩) hgal).trans (hcA i j hi hj)) (fun i j hi hj=>(hW.cell (p:=⟨gb,offb + (i * 3 + j),QA⟩) hgbl).trans (hcB i j hi hj)) h0) n
   exact yieldAt_alt (hY pre x W1 hj hl) _
abbrev c73:CC:=(.seq (.reg [(oD 2 (.box 23 (tP 0))),(oD 3 (.box 23 (tP 1))),(oD 4 (.mv (.const .nilFunc)))]) (.seq (.reg [(oD 5 (.mkfn 114 [(tP 2),(tP 3)])),(mV 4 5)]) .ret))
theorem cc73:ZA Tryz.prog [] (Tryz.f73.body.getD .skip) = PA c73:=by kernel_rfl
theorem body73:Tryz.f73.body = PA (Tryz.f73.body.getD .skip):=rfl
theorem pairs_C (x y:CV):YA Tryz.prog 73 [.one (.c x),.one (.c y)] (.ret (.one (.fn 114 [.iptr [x],.iptr [y]]))):=by
 refine WA (rs:=[(RV.tmp 4)]) Tryz.func73 (fun a w=>Tryz.call73 a w) body73 cc73 (by kernel_rfl) ?_
 rw [Tryz.ntmps73]
 simp only [pC,nA,nS]
 repeat (first | (with_reducible first | refine W8 ?_ | refine VA rfl ?_) | ((with_reducible refine X8 fun K hK=>?_);simp (disch:=first | omega | simp only [sB];omega) only [qB,reduceIte,reduceCtorEq,iT,nA,nS,nM,iA,iS,iM,iN,fU];subst hK))
 exact ⟨_,rfl,rfl⟩
open Go Go.Am Go.Proofs Go.RowKit Go.Off
open Nat renaming reduceAdd -> nA,reduceSub -> nS,reduceMul -> nM,reduceBEq -> nB
open Int renaming reduceToNat -> iT,reduceAdd -> iA,reduceSub -> iS,reduceMul -> iM,reduceNeg -> iN
def VQ (a b:VV) (k:Nat):Rat:=(List.range k).foldl (fun s i=>s + (dF a i).val * (dF b i).val) 0
def aL (a b:VV):Rat:=VQ a b (dP a b)
theorem UQ (a b:VV) (k:Nat):VQ a b (k + 1) = VQ a b k + (dF a k).val * (dF b k).val:=by
 unfold VQ;rw [List.range_succ,List.foldl_append];rfl
abbrev c29_k1:CC:=(.seq (.reg [(lT 31 3 5),(sT 3 4 31)]) .ret)
abbrev c29_b1:CC:=(.block 1 (.seq (.reg [(oD 14 (.iaddr 3 (PA 2) (tP 7) (.const (.int .i64 (0))))),(lT 15 3 14),(oD 16 (.callf (.func 27) [(tP 15)])),(bC 17 .neq 16 0),(mV 18 17),(oG 19 18 SA (.iaddr 3 (PA 2) (tP 7) (.const (.int .i64 (1))))),(oG 20 18 SA (.load 3 SA (tP 19))),(oG 21 18 SA (.callf (.func 27) [(tP 20)])),(oG 22 18 SA (.bin .neq (tP 21) (.const (.int .i64 (0))))),(pF 23 18 22)]) (.cond (tP 23) (.reg [(lT 24 3 5),(oD 25 (.iaddr 3 (PA 2) (tP 7) (.const (.int .i64 (0))))),(lT 26 3 25),(oD 27 (.iaddr 3 (PA 2) (tP 7) (.const (.int .i64 (1))))),(lT 28 3 27),(oD 29 (.callf (.func 21) [(tP 26),(tP 28)])),(oD 30 (.callf (.func 20) [(tP 24),(tP 29)])),(sT 3 5 30)]) .skip)))
abbrev c29:CC:=(.seq (.reg [(oD 4 (.new 48 [(.bool TA),(.slice QA 0 0),(.slice QA 0 0)]))]) (.seq (.reg [(oD 8 (.callf (.func 19) [(.const (.int .i64 (0)))])),(oD 5 (.new 48 [(.bool TA),(.slice QA 0 0),(.slice QA 0 0)])),(sT 3 5 8)]) (.seq (.seq (.reg [(mV 9 0),(mV 10 1),(oD 11 (.callf (.func 73) [(tP 9),(tP 10)]))]) (.block 0 (.rfb (tP 11) [12,13] 7 123 6 13 c29_b1))) c29_k1)))
theorem cc29:ZA Tryz.prog [] (Tryz.f29.body.getD .skip) = PA c29:=by kernel_rfl
theorem body29:Tryz.f29.body = PA (Tryz.f29.body.getD .skip):=rfl
theorem dot_W (a b:VV) (n L K:Nat) (ha:vC a n L) (hb:vC b n K) (hn:n <= 1000) (hL:1 <= L) (hK:1 <= K) (hL2:L <= 8000000) (hK2:K <= 8000000) (hLK:L + K <= 8000000) (hN:n * (L + K + 1) <= 8990000):YA Tryz.prog 29 [aV a,aV b] (.ret (aR (eB (aL a b)))):=by
 have hint:=KE 0 (by omega) (by omega)
 rw [show ((0:Int):Rat) = 0 from rfl] at hint
 have hp:=pairs_C (vr a) (vr b)
 have ha1:=ha.1
 have hb1:=hb.1
 refine WA (rs:=[(RV.cell 4 3 SA)]) Tryz.func29 (fun a w=>Tryz.call29 a w) body29 cc29 (by kernel_rfl) ?_
 rw [Tryz.ntmps29]
 simp only [pC,nA,nS]
 repeat (first | (with_reducible first | refine W8 ?_ | refine VA rfl ?_) | ((with_reducible refine X8 fun K hK=>?_);simp (disch:=first | omega | simp only [sB];omega) only [qB,reduceIte,reduceCtorEq,iT,nA,nS,nM,iA,iS,iM,iN,fU];subst hK) | refine KB (hint) rfl rfl rfl ?_ | refine KB (hp) rfl rfl rfl ?_)
 refine awp_foldb (pairs_iter a b (by omega) (by omega)) rfl (by simp [wE]) (by simp) (fun k=>fR (dF a k) ++ fR (dF b k)) (fun k=>rfl) (fun k=>rfl)
  (fun (s:Rat)=>[⟨0,48,3,[[.c (.val (.bool TA)),.c (.val (.slice QA 0 0)),.c (.val (.slice QA 0 0))]],SA,SA⟩,⟨0,48,3,[[.c (.val (.bool (eB s).minus)),.c (nr (eB s).size),.c (nr (eB s).den)]],SA,SA⟩])
  (fun s k=>s + (dF a k).val * (dF b k).val) (fun i s=>SB s (i * (L + K + 1) + 1)) 0 rfl (by rw [Nat.zero_mul];exact HC _ (by omega)) (by simp) ?_ ?_
 ·intro i s k hi hs
  have fa:=ha.at k
  have fb:=hb.at k
  have hsa:=BG (dF a k) (fa.mono (by omega))
  have hsb:=BG (dF b k) (fb.mono (by omega))
  have hiL:i * (L + K + 1) <= n * (L + K + 1):=Nat.mul_le_mul (by have:dP a b <= n:=by (show min _ _ <= n);omega
                                                                  omega) (EA _)
  have hq:=OS fa fb hL hK
  have hm:=kN (dF a k) (dF b k) (fa.mono (by omega)) (fb.mono (by omega))
  have had:=radd_C (eB s) (eB ((dF a k).val * (dF b k).val)) (QB (hs.mono (by omega))) (QB (hq.mono (by omega)))
  rw [rawQ_val,rawQ_val] at had
  have hnx:SB (s + (dF a k).val * (dF b k).val) ((i + 1) * (L + K + 1) + 1):=(hs.add1 hq).mono (by rw [Nat.add_mul];omega)
  have za:=bM (dF a k)
  have zb:=bM (dF b k)
  have ga:=(ZG (dF a k).top).trans za
  have gb:=(ZG (dF b k).top).trans zb
  simp only [mvT,VG,rnd,nA]
  by_cases h0:(dF a k).val = 0
  ·have hs0:s + (dF a k).val * (dF b k).val = s:=by rw [h0,Rat.zero_mul,Rat.add_zero]
   have hz:=ga.2 h0
   rw [hz] at hsa
   repeat (first | (with_reducible first | refine W8 ?_ | refine VA rfl ?_) | ((with_reducible refine X8 fun K hK=>?_);simp (disch:=first | omega | simp only [sB];omega) only [qB,reduceIte,reduceCtorEq,iT,nA,nS,nM,iA,iS,iM,iN,fU,fR];subst hK) | refine KB (hsa) rfl rfl rfl ?_)
   refine ⟨_,⟨rfl,?hI1⟩,_,TB.head (EA _) [] rfl ?hH1⟩
   case hH1=>first | (simp (disch:=omega) only [pD,IB,lB,XA,clean1,uB,reduceIte,iS,iA,iN,hs0];done) | rfl
   exact hnx
  ·have hz:dE (dF a k).top ≠ 0:=fun e=>h0 (ga.1 e)
   generalize dE (dF a k).top = ta at hsa hz
   by_cases h1:(dF b k).val = 0
   ·have hs0:s + (dF a k).val * (dF b k).val = s:=by rw [h1,Rat.mul_zero,Rat.add_zero]
    have hz:=gb.2 h1
    rw [hz] at hsb
    repeat (first | (with_reducible first | refine W8 ?_ | refine VA rfl ?_) | ((with_reducible refine X8 fun K hK=>?_);simp (disch:=first | omega | simp only [sB];omega) only [qB,reduceIte,reduceCtorEq,iT,nA,nS,nM,iA,iS,iM,iN,fU,fR];subst hK) | refine KB (hsa) rfl rfl rfl ?_ | refine UJ (hsb) ?_)
    refine ⟨_,⟨rfl,?hI2⟩,_,TB.head (EA _) [] rfl ?hH2⟩
    case hH2=>first | (simp (disch:=omega) only [pD,IB,lB,XA,clean1,uB,reduceIte,iS,iA,iN,hs0];done) | rfl
    exact hnx
   ·have hz:dE (dF b k).top ≠ 0:=fun e=>h1 (gb.1 e)
    generalize dE (dF b k).top = tb at hsb hz
    repeat (first | (with_reducible first | refine W8 ?_ | refine VA rfl ?_) | ((with_reducible refine X8 fun K hK=>?_);simp (disch:=first | omega | simp only [sB];omega) only [qB,reduceIte,reduceCtorEq,iT,nA,nS,nM,iA,iS,iM,iN,fU,fR];subst hK) | refine KB (hsa) rfl rfl rfl ?_ | refine UJ (hsb) ?_ | refine KB (hm) rfl rfl rfl ?_ | refine KB (had) rfl rfl rfl ?_)
    refine ⟨_,⟨rfl,?hI3⟩,_,TB.head (EA _) [] rfl ?hH3⟩
    case hH3=>first | (simp (disch:=omega) only [pD,IB,lB,XA,clean1,uB,reduceIte,iS,iA,iN];done) | rfl
    exact hnx
 ·intro _
  repeat (first | (with_reducible first | refine W8 ?_ | refine VA rfl ?_) | ((with_reducible refine X8 fun K hK=>?_);simp (disch:=first | omega | simp only [sB];omega) only [qB,reduceIte,reduceCtorEq,iT,nA,nS,nM,iA,iS,iM,iN,fU];subst hK))
  exact ⟨_,rfl,rfl⟩
abbrev c77:CC:=(.seq (.reg [(oD 4 (.new 48 [(.bool TA),(.slice QA 0 0),(.slice QA 0 0)]))]) (.seq (.seq (.reg [(mV 5 1),(bC 6 .lss 5 0),(mV 7 6),(gM 8 7 TA 1),(gM 9 7 TA 0),(oG 10 7 TA (.len TA (tP 9))),(oG 11 7 TA (.bin .geq (tP 8) (tP 10))),(pT 12 7 11)]) (.cond (tP 12) (.seq (.reg [(oD 13 (.callf (.func 19) [(.const (.int .i64 (0)))])),(sT 3 4 13)]) .ret) .skip)) (.seq (.reg [(mV 14 0),(mV 15 1),(xA 16 3 14 15),(lT 17 3 16),(sT 3 4 17)]) .ret)))
theorem cc77:ZA Tryz.prog [] (Tryz.f77.body.getD .skip) = PA c77:=by kernel_rfl
theorem body77:Tryz.f77.body = PA (Tryz.f77.body.getD .skip):=rfl
theorem vat_C (a:VV) (i:Nat) (hl:(UA a).length <= 1000000000000) (hi:i <= 1000000000000):∃ r:RR,r.val = jE a i /\ (∀ L,1 <= L -> (∀ r ∈ UA a,vD r L) -> vD r L) /\ YA Tryz.prog 77 [aV a,aI (i:Int)] (.ret (aR r)):=by
 have hint:=KE 0 (by omega) (by omega)
 rw [show ((0:Int):Rat) = 0 from rfl] at hint
 by_cases h:i < (UA a).length
 ·refine ⟨dF a i,rfl,fun L _ hf=>hf _ (by rw [fE h];exact gA h),?_⟩
  rw [fE h]
  refine WA (rs:=[(RV.cell 4 3 SA)]) Tryz.func77 (fun a w=>Tryz.call77 a w) body77 cc77 (by kernel_rfl) ?_
  rw [Tryz.ntmps77]
  simp only [pC,nA,nS]
  repeat (first | (with_reducible first | refine W8 ?_ | refine VA rfl ?_) | ((with_reducible refine X8 fun K hK=>?_);simp (disch:=first | omega | simp only [sB];omega) only [qB,reduceIte,reduceCtorEq,iT,nA,nS,nM,iA,iS,iM,iN,fU,fR];subst hK))
  exact ⟨_,rfl,rfl⟩
 ·refine ⟨eB 0,by rw [rawQ_val];unfold jE;rw [rAt_out (by omega)];exact cP.symm,fun L hL _=>QB (HC L hL),?_⟩
  refine WA (rs:=[(RV.cell 4 3 SA)]) Tryz.func77 (fun a w=>Tryz.call77 a w) body77 cc77 (by kernel_rfl) ?_
  rw [Tryz.ntmps77]
  simp only [pC,nA,nS]
  repeat (first | (with_reducible first | refine W8 ?_ | refine VA rfl ?_) | ((with_reducible refine X8 fun K hK=>?_);simp (disch:=first | omega | simp only [sB];omega) only [qB,reduceIte,reduceCtorEq,iT,nA,nS,nM,iA,iS,iM,iN,fU];subst hK) | refine KB (hint) rfl rfl rfl ?_)
  exact ⟨_,rfl,rfl⟩
def A8 (a b:VV):List Rat:=(List.range (max (UA a).length (UA b).length)).map fun i=>jE a i + jE b i
abbrev c32_k1:CC:=(.seq (.reg [(mV 26 5),(mV 4 26)]) .ret)
abbrev c32_b1:CC:=(.seq (.reg [(bB 13 .lss 12 11)]) (.seq (.cond (tP 13) .skip (.exit 0)) (.seq (.block 1 (.seq (.reg [(mV 14 12),(mV 6 14)]) (.reg [(mV 15 5),(mV 16 0),(mV 17 6),(oD 18 (.callf (.func 77) [(tP 16),(tP 17)])),(mV 19 1),(mV 20 6),(oD 21 (.callf (.func 77) [(tP 19),(tP 20)])),(oD 22 (.callf (.func 20) [(tP 18),(tP 21)])),(oD 23 (.mkrow 48 3 [(tP 22)])),(oD 24 (.append 48 3 56 (tP 15) (tP 23))),(mV 5 24)]))) (.reg [(bC 25 .add 12 1),(mV 12 25)]))))
abbrev c32:CC:=(.seq (.reg [(oD 4 (.mv nC))]) (.seq (.reg [(oD 5 (.mv nC))]) (.seq (.seq (.reg [(mV 7 0),(nL 8 7),(mV 9 1),(nL 10 9),(oD 11 (.mm SA (tP 8) (tP 10))),(mI 12 0)]) (.block 0 (.loop c32_b1))) c32_k1)))
theorem cc32:ZA Tryz.prog [] (Tryz.f32.body.getD .skip) = PA c32:=by kernel_rfl
theorem body32:Tryz.f32.body = PA (Tryz.f32.body.getD .skip):=rfl
theorem vadd_C (a b:VV) (n L:Nat) (ha:vC a n L) (hb:vC b n L) (hn:n <= 1000000) (hL:1 <= L) (hL2:L <= 4000000) :
  YA Tryz.prog 32 [aV a,aV b] (.fresh 48 3 ((A8 a b).map fun q=>fR (eB q)) (!(A8 a b).isEmpty)):=by
 have ha1:=ha.1
 have hb1:=hb.1
 have hmx:max ((UA a).length:Int) ((UA b).length:Int) = ((max (UA a).length (UA b).length:Nat):Int):=by omega
 have hmn:max (UA a).length (UA b).length <= n:=by omega
 unfold A8
 generalize max (UA a).length (UA b).length = m at *
 refine WA (rs:=[(RV.tmp 4)]) Tryz.func32 (fun a w=>Tryz.call32 a w) body32 cc32 (by kernel_rfl) ?_
 rw [Tryz.ntmps32]
 simp only [pC,nA,nS]
 repeat (first | (with_reducible first | refine W8 ?_ | refine VA rfl ?_) | ((with_reducible refine X8 fun K hK=>?_);simp (disch:=first | omega | simp only [sB];omega) only [qB,reduceIte,reduceCtorEq,iT,nA,nS,nM,iA,iS,iM,iN,fU,hmx];subst hK))
 refine uD.fgt ?_ (TB.openNil (i:=5) rfl 48 3)
 simp only [lA,mA,pA,oA,qA,rA,nA]
 refine xB (fun (zz:Nat × (List RR) × Nat × Bool)=>⟨(aV a :: aV b :: .junk :: .junk :: .one (.c (.val (.slice QA 0 0))) :: .one (.own 0 zz.2.2.1) :: J4 (.junk :: aI m :: aI zz.1 :: J8 (J4 (.junk :: .junk :: [])))),[⟨zz.2.2.1,48,3,wB fR zz.2.1,SA,zz.2.2.2⟩]⟩) (fun (zz:Nat × (List RR) × Nat × Bool)=>zz.1 <= m /\ zz.2.1 = (List.range zz.1).map (fun k=>eB (jE a k + jE b k)) /\ zz.2.2.2 = !zz.2.1.isEmpty) (fun (zz:Nat × (List RR) × Nat × Bool)=>m - zz.1) (0,[],0,TA) ?hI1 (TB.headN (fN 1) [SA,SA,TA,TA,SA,SA,TA,TA,TA,TA,TA,SA,SA]) ?hB1
 ·dsimp only;exact ⟨by omega,rfl,rfl⟩
 rintro ⟨i,out,v,nn⟩ ⟨hi,ho,hnn⟩
 dsimp only at hi ho hnn
 by_cases him:i = m
 ·repeat (first | (with_reducible first | refine W8 ?_ | refine VA rfl ?_) | ((with_reducible refine X8 fun K hK=>?_);simp (disch:=first | omega | simp only [sB];omega) only [qB,reduceIte,reduceCtorEq,iT,nA,nS,nM,iA,iS,iM,iN,fU];subst hK))
  refine ⟨_,rfl,?_⟩
  rw [him] at ho
  have he:(!((List.range m).map fun i=>jE a i + jE b i).isEmpty) = nn:=by rw [hnn,ho];cases m <;> simp
  rw [he,uA,show ((fun q=>fR (eB q)) ∘ fun i=>jE a i + jE b i) = fR ∘ (fun i=>eB (jE a i + jE b i)) from rfl,<- uA,<- ho]
  exact JD.fresh_enc rfl
 ·obtain ⟨ra,hra,hfa,hca⟩:=vat_C a i (by omega) (by omega)
  obtain ⟨rb,hrb,hfb,hcb⟩:=vat_C b i (by omega) (by omega)
  have had:=radd_C ra rb ((hfa L hL ha.2).mono (by omega)) ((hfb L hL hb.2).mono (by omega))
  rw [hra,hrb] at had
  have hol:out.length = i:=by rw [ho,eA,List.length_range]
  repeat (first | (with_reducible first | refine W8 ?_ | refine VA rfl ?_) | ((with_reducible refine X8 fun K hK=>?_);simp (disch:=first | omega | simp only [sB];omega) only [qB,reduceIte,reduceCtorEq,iT,nA,nS,nM,iA,iS,iM,iN,fU];subst hK) | refine KB (hca) rfl rfl rfl ?_ | refine KB (hcb) rfl rfl rfl ?_ | refine KB (had) rfl rfl rfl ?_)
  refine ⟨(i + 1,out ++ [eB (jE a i + jE b i)],v + 1,SA),?hI2,?hM2,TB.head (fN 1) [SA,SA,TA,TA,SA,SA,TA,TA,TA,TA,TA,SA,SA] ?hT2 ?hH2⟩
  case hT2 | hH2=>first | (simp (disch:=omega) only [pD,IB,lB,XA,clean1,uB,reduceIte,iS,iA,iN,YB,kA,KA,LA];done) | rfl
  ·dsimp only
   refine ⟨by omega,?_,by simp⟩
   rw [ho,List.range_succ,List.map_append]
   rfl
  ·dsimp only;omega
def JE (a:VV) (q:Rat):List Rat:=(UA a).map fun r=>r.val * q
abbrev c44_k1:CC:=(.seq (.reg [(mV 21 5),(mV 4 21)]) .ret)
abbrev c44_b1:CC:=(.seq (.reg [(bB 11 .lss 10 9)]) (.seq (.cond (tP 11) .skip (.exit 0)) (.seq (.block 1 (.seq (.reg [(xA 12 3 8 10),(lT 13 3 12),(oD 7 (.new 48 [(.bool TA),(.slice QA 0 0),(.slice QA 0 0)])),(sT 3 7 13)]) (.reg [(mV 14 5),(lT 15 3 7),(lT 16 3 3),(oD 17 (.callf (.func 21) [(tP 15),(tP 16)])),(oD 18 (.mkrow 48 3 [(tP 17)])),(oD 19 (.append 48 3 56 (tP 14) (tP 18))),(mV 5 19)]))) (.reg [(bC 20 .add 10 1),(mV 10 20)]))))
abbrev c44:CC:=(.seq (.reg [(oD 3 (.box 48 (tP 1))),(oD 4 (.mv nC))]) (.seq (.reg [(oD 5 (.mv nC))]) (.seq (.seq (.reg [(mV 8 0),(nL 9 8),(mI 10 0)]) (.block 0 (.loop c44_b1))) c44_k1)))
theorem cc44:ZA Tryz.prog [] (Tryz.f44.body.getD .skip) = PA c44:=by kernel_rfl
theorem body44:Tryz.f44.body = PA (Tryz.f44.body.getD .skip):=rfl
theorem XL (a:VV) (by':RR) (n L:Nat) (ha:vC a n L) (hb:vD by' L) (hn:n <= 1000000) (hL:1 <= L) (hL2:L <= 4000000) :
  YA Tryz.prog 44 [aV a,aR by'] (.fresh 48 3 ((JE a by'.val).map fun q=>fR (eB q)) (!(JE a by'.val).isEmpty)):=by
 have ha1:=ha.1
 unfold JE
 refine WA (rs:=[(RV.tmp 4)]) Tryz.func44 (fun a w=>Tryz.call44 a w) body44 cc44 (by kernel_rfl) ?_
 rw [Tryz.ntmps44]
 simp only [pC,nA,nS]
 repeat (first | (with_reducible first | refine W8 ?_ | refine VA rfl ?_) | ((with_reducible refine X8 fun K hK=>?_);simp (disch:=first | omega | simp only [sB];omega) only [qB,reduceIte,reduceCtorEq,iT,nA,nS,nM,iA,iS,iM,iN,fU];subst hK))
 refine uD.fgt ?_ (TB.openNil (i:=5) rfl 48 3)
 simp only [lA,mA,pA,oA,qA,rA,nA]
 refine xB (fun (zz:Nat × (List RR) × Nat × Bool)=>⟨(aV a :: aR by' :: .junk :: .one (.ptr 0 0 0 0) :: .one (.c (.val (.slice QA 0 0))) :: .one (.own 1 zz.2.2.1) :: .junk :: .junk :: aV a :: aI (UA a).length :: aI zz.1 :: J8 (.junk :: .junk :: .junk :: [])),[⟨0,48,3,[[.c (.val (.bool by'.minus)),.c (nr by'.size),.c (nr by'.den)]],SA,SA⟩,⟨zz.2.2.1,48,3,wB fR zz.2.1,SA,zz.2.2.2⟩]⟩) (fun (zz:Nat × (List RR) × Nat × Bool)=>zz.1 <= (UA a).length /\ zz.2.1 = ((UA a).take zz.1).map (fun r=>eB (r.val * by'.val)) /\ zz.2.2.2 = !zz.2.1.isEmpty) (fun (zz:Nat × (List RR) × Nat × Bool)=>(UA a).length - zz.1) (0,[],0,TA) ?hI3 (TB.headN (fN 2) [SA,SA,TA,SA,SA,SA,TA,TA,SA,SA,SA]) ?hB3
 ·dsimp only;exact ⟨by omega,rfl,rfl⟩
 rintro ⟨i,out,v,nn⟩ ⟨hi,ho,hnn⟩
 dsimp only at hi ho hnn
 by_cases him:i = (UA a).length
 ·repeat (first | (with_reducible first | refine W8 ?_ | refine VA rfl ?_) | ((with_reducible refine X8 fun K hK=>?_);simp (disch:=first | omega | simp only [sB];omega) only [qB,reduceIte,reduceCtorEq,iT,nA,nS,nM,iA,iS,iM,iN,fU];subst hK))
  refine ⟨_,rfl,?_⟩
  rw [him,List.take_length] at ho
  have he:(!((UA a).map fun r=>r.val * by'.val).isEmpty) = nn:=by rw [hnn,ho];cases (UA a) <;> rfl
  rw [he,uA,show ((fun q=>fR (eB q)) ∘ fun r:RR=>r.val * by'.val) = fR ∘ (fun r:RR=>eB (r.val * by'.val)) from rfl,<- uA,<- ho]
  exact JD.fresh_enc rfl
 ·have hlt:i < (UA a).length:=by omega
  have hmu:=kN (UA a)[i] by' ((ha.2 _ (gA hlt)).mono (by omega)) (hb.mono (by omega))
  have hol:out.length = i:=by rw [ho,eA,List.length_take];omega
  repeat (first | (with_reducible first | refine W8 ?_ | refine VA rfl ?_) | ((with_reducible refine X8 fun K hK=>?_);simp (disch:=first | omega | simp only [sB];omega) only [qB,reduceIte,reduceCtorEq,iT,nA,nS,nM,iA,iS,iM,iN,fU,fR];subst hK) | refine KB (hmu) rfl rfl rfl ?_)
  refine ⟨(i + 1,out ++ [eB ((UA a)[i].val * by'.val)],v + 1,SA),?hI4,?hM4,TB.head (fN 2) [SA,SA,TA,SA,SA,SA,TA,TA,SA,SA,SA] ?hT4 ?hH4⟩
  case hT4 | hH4=>first | (simp (disch:=omega) only [pD,IB,lB,XA,clean1,uB,reduceIte,iS,iA,iN,YB,kA,KA,LA];done) | rfl
  ·dsimp only
   refine ⟨by omega,?_,by simp⟩
   rw [ho,List.take_succ_eq_append_getElem hlt,List.map_append]
   rfl
  ·dsimp only;omega
theorem vadd_R (a b:VV) (n L:Nat) (ha:vC a n L) (hb:vC b n L) (hn:n <= 1000000) (hL:1 <= L) (hL2:L <= 4000000):YA Tryz.prog 32 [aV a,aV b] (.ret (aV (aC ((A8 a b).map eB)))) :=
 YA.fresh_rowO ((vadd_C a b n L ha hb hn hL hL2).to (by rw [uA,List.isEmpty_map];rfl))
theorem vscale_R (a:VV) (by':RR) (n L:Nat) (ha:vC a n L) (hb:vD by' L) (hn:n <= 1000000) (hL:1 <= L) (hL2:L <= 4000000):YA Tryz.prog 44 [aV a,aR by'] (.ret (aV (aC ((JE a by'.val).map eB)))) :=
 YA.fresh_rowO ((XL a by' n L ha hb hn hL hL2).to (by rw [uA,List.isEmpty_map];rfl))
theorem cmpQ_zero (a b:Rat):(LM a b == 0) = decide (a = b):=by
 unfold LM
 by_cases h1:a < b
 ·have:a ≠ b:=fun e=>Rat.lt_irrefl (e ▸ h1)
  rw [if_pos h1];simp [this]
 ·by_cases h2:b < a
  ·have:a ≠ b:=fun e=>Rat.lt_irrefl (e ▸ h2)
   rw [if_neg h1,if_pos h2];simp [this]
  ·have:a = b:=Rat.le_antisymm (Rat.not_lt.1 h2) (Rat.not_lt.1 h1)
   rw [if_neg h1,if_neg h2];simp [this]
abbrev c47:CC:=(.seq (.reg [(oD 2 (.box 48 (tP 0))),(oD 3 (.box 48 (tP 1))),(mB 4 TA)]) (.seq (.reg [(lT 5 3 2),(lT 6 3 3),(oD 7 (.callf (.func 28) [(tP 5),(tP 6)])),(bC 8 .eql 7 0),(mV 4 8)]) .ret))
theorem cc47:ZA Tryz.prog [] (Tryz.f47.body.getD .skip) = PA c47:=by kernel_rfl
theorem body47:Tryz.f47.body = PA (Tryz.f47.body.getD .skip):=rfl
theorem same1_C (a b:RR) (ha:vD a 90000000) (hb:vD b 90000000):YA Tryz.prog 47 [aR a,aR b] (.ret (aB (decide (a.val = b.val)))):=by
 have hc:=BL a b ha hb
 rw [<- cmpQ_zero]
 refine WA (rs:=[(RV.tmp 4)]) Tryz.func47 (fun a w=>Tryz.call47 a w) body47 cc47 (by kernel_rfl) ?_
 rw [Tryz.ntmps47]
 simp only [pC,nA,nS]
 repeat (first | (with_reducible first | refine W8 ?_ | refine VA rfl ?_) | ((with_reducible refine X8 fun K hK=>?_);simp (disch:=first | omega | simp only [sB];omega) only [qB,reduceIte,reduceCtorEq,iT,nA,nS,nM,iA,iS,iM,iN,fU];subst hK) | refine KB (hc) rfl rfl rfl ?_)
 exact ⟨_,rfl,rfl⟩
end Go.Proofs.YtncgbjhojbnecaaGreat
