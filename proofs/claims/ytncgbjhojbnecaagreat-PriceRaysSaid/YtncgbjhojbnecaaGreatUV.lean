/- Walks of model: Feasible, Value; shape: Back, Slack. -/
import Derived.Test.YtncgbjhojbnecaaGreatU12
import Derived.Test.YtncgbjhojbnecaaGreatU14
import Derived.Test.YtncgbjhojbnecaaGreatU16
set_option linter.unusedSimpArgs false
set_option linter.unusedVariables false
set_option linter.unnecessarySimpa false
set_option maxRecDepth 100000
set_option maxHeartbeats 4000000
open Bool renaming false -> TA, true -> SA, and_eq_true -> JA
open Option renaming some -> PA, none -> QA, getD_some -> DA
open List renaming length_append -> sA, getD_eq_getElem?_getD -> bA, length_map -> eA, getElem?_eq_getElem -> aA, mem_range -> zA, getElem_mem -> gA, mem_map -> yA, map_congr_left -> wA
open Nat renaming le_refl -> EA
namespace Go.Proofs.YtncgbjhojbnecaaGreat
open Go Go.Am Go.Proofs Go.RowKit Go.Off
abbrev c76:CC:=(.seq (.reg [(oD 1 (.box 48 (tP 0))),(mB 2 TA)]) (.seq (.reg [(lT 3 3 1),(oD 4 (.callf (.func 27) [(tP 3)])),(bC 5 .lss 4 0),(mV 2 5)]) .ret))
theorem cc76:ZA Tryz.prog [] (Tryz.f76.body.getD .skip) = PA c76:=by kernel_rfl
theorem body76:Tryz.f76.body = PA (Tryz.f76.body.getD .skip):=rfl
def okZ (rel z:Int):Bool:=!((decide (rel <= 0) && decide (0 < z)) || (decide (0 <= rel) && decide (z < 0)))
def c5 (m:MD) (x:VV) (i:Nat):Bool:=okZ (MG m i).rel (LM (aL (MG m i).coef x) (MG m i).b.val)
def f4 (m:MD) (x:VV):Bool:=decide ((UA x).length = (UA m.vars).length) && (!jG (pAt UY x) (UA x).length && KN (c5 m x) (UA m.rows).length)
abbrev c31_k1:CC:=(.seq (.reg [(mB 4 SA)]) .ret)
abbrev c31_b1:CC:=(.seq (.reg [(bB 24 .lss 23 22)]) (.seq (.cond (tP 24) .skip (.exit 0)) (.seq (.block 1 (.seq (.reg [(xA 25 6 21 23),(lT 26 6 25),(oD 7 (.new 50 [(.string ⟨#[]⟩),(.slice QA 0 0),(.int .i64 (0)),(.bool TA),(.slice QA 0 0),(.slice QA 0 0)])),(sT 6 7 26)]) (.seq (.reg [(fA 27 1 7),(lF 28 1 27),(mV 29 1),(oD 30 (.callf (.func 29) [(tP 28),(tP 29)])),(fA 31 3 7),(lT 32 3 31),(oD 33 (.callf (.func 28) [(tP 30),(tP 32)])),(mV 8 33)]) (.seq (.reg [(fA 34 2 7),(lF 35 1 34),(bC 36 .leq 35 0),(mV 37 36),(gM 38 37 SA 8),(oG 39 37 SA (.bin .gtr (tP 38) (.const (.int .i64 (0))))),(pF 40 37 39),(mV 41 40),(oG 42 41 TA (.faddr 2 (tP 7))),(oG 43 41 TA (.load 1 TA (tP 42))),(oG 44 41 TA (.bin .geq (tP 43) (.const (.int .i64 (0))))),(gM 45 41 TA 44),(gM 46 45 SA 8),(oG 47 45 SA (.bin .lss (tP 46) (.const (.int .i64 (0))))),(oG 48 41 TA (.pick (tP 45) (tP 47) (.const (.bool TA)))),(pT 49 41 48)]) (.cond (tP 49) (.seq (.reg [(mB 4 TA)]) .ret) .skip))))) (.reg [(bC 50 .add 23 1),(mV 23 50)]))))
abbrev c31:CC:=(.seq (.reg [(oD 2 (.box 26 (tP 0))),(mB 4 TA)]) (.seq (.reg [(oD 5 (.mv (.func 76)))]) (.seq (.seq (.reg [(mV 9 1),(nL 10 9),(fA 11 0 2),(lF 12 1 11),(nL 13 12),(bB 14 .neq 10 13),(mV 15 14),(gM 16 15 TA 1),(gM 17 15 TA 5),(oG 18 15 TA (.callf (.func 75) [(tP 16),(tP 17)])),(pT 19 15 18)]) (.cond (tP 19) (.seq (.reg [(mB 4 TA)]) .ret) .skip)) (.seq (.seq (.reg [(fA 20 2 2),(lF 21 1 20),(nL 22 21),(mI 23 0)]) (.block 0 (.loop c31_b1))) c31_k1))))
theorem cc31:ZA Tryz.prog [] (Tryz.f31.body.getD .skip) = PA c31:=by kernel_rfl
theorem body31:Tryz.f31.body = PA (Tryz.f31.body.getD .skip):=rfl
def g9 (m:MD) (x:VV):List Rat:=((UA x).take (UA m.vars).length).map fun r=>r.val
def t9 (x:VV) (r:RowM):List Rat:=if r.rel = 0 then [] else [(r.b.val - aL r.coef x) * ((0 - r.rel:Int):Rat)]
def Y9 (m:MD) (x:VV) (k:Nat):List Rat:=(((UA m.rows).take k).map (t9 x)).flatten
theorem l9 (m:MD) (x:VV) {k:Nat} (h:k < (UA m.rows).length):Y9 m x (k + 1) = Y9 m x k ++ t9 x (UA m.rows)[k]:=by
 unfold Y9
 rw [List.take_succ_eq_append_getElem h,List.map_append,List.flatten_append]
 simp
theorem slTo_len (m:MD) (x:VV) (k:Nat) (h:k <= (UA m.rows).length):(Y9 m x k).length = WD m k:=by
 induction k with
 | zero=>rfl
 | succ k ih =>
  rw [l9 m x h,sA,ih (by omega),QN m h]
  unfold t9
  split <;> rfl
def s4 (m:MD) (x:VV):List Rat:=((UA x).map fun r=>r.val) ++ Y9 m x (UA m.rows).length
theorem BP (l:List Rat):(UA (aQ l)).length = l.length:=len_rw l
theorem s5 (l:List Rat) (i:Nat):jE (aQ l) i = l.getD i 0:=qAt_rw l i
theorem u9 {v:VV} {i:Nat} (h:(UA v).length <= i):jE v i = 0:=by unfold jE;rw [rAt_out h];exact cP
structure RtMd (m:MD):Prop where
 v60:(UA m.vars).length <= 60
 cost:(UA m.cost).length = (UA m.vars).length
 r60:(UA m.rows).length <= 60
 row:∀ i,i < (UA m.rows).length -> (UA (MG m i).coef).length = (UA m.vars).length /\ -1 <= (MG m i).rel /\ (MG m i).rel <= 1
theorem rt_of {m:MD} (h:VD m = SA):RtMd m:=by
 unfold VD at h
 simp only [JA,decide_eq_true_eq] at h
 obtain ⟨h1,h2,h3,_,_,h4⟩:=h
 have h4':jG (HH m) (UA m.rows).length = TA:=by simpa using h4
 refine ⟨h1,h2,h3,fun i hi=>?_⟩
 have:=xG h4' hi
 unfold HH mM at this
 simpa using this
theorem qAt_wide (l:VV) (n i:Nat):(fF l n).getD i 0 = jE l i:=by
 unfold fF
 rw [bA]
 by_cases h:i < (UA l).length
 ·rw [List.getElem?_append_left (by rw [eA];exact h),List.getElem?_map,aA h]
  unfold jE;rw [fE h];rfl
 ·rw [List.getElem?_append_right (by rw [eA];omega),u9 (by omega),List.getElem?_replicate]
  split <;> rfl
theorem j9 {m:MD} {i:Nat} (hi:i < (UA m.rows).length) (h0:(MG m i).rel ≠ 0):WD m i < WD m (UA m.rows).length:=by
 have h1:=QN m hi
 rw [FD hi] at h0
 rw [if_neg h0] at h1
 have h2:=XU m (show i + 1 <= (UA m.rows).length from hi)
 omega
theorem FS {m:MD} (h:RtMd m) {i:Nat} (hi:i < (UA m.rows).length):(kG m i).length = YK m:=by
 have h1:=(h.row i hi).1
 have:(UA (MG m i).coef).length <= YK m:=by unfold YK;omega
 unfold kG
 split
 ·exact lG _ _ this
 ·rw [List.length_set];exact lG _ _ this
theorem ofRow_get {m:MD} (h:RtMd m) {i:Nat} (hi:i < (UA m.rows).length) (k:Nat) :
  (kG m i).getD k 0 = jE (MG m i).coef k + (if (UA m.vars).length + WD m i = k then (if (MG m i).rel = 0 then 0 else ((0 - (MG m i).rel:Int):Rat)) else 0):=by
 have h1:=(h.row i hi).1
 unfold kG
 by_cases h0:(MG m i).rel = 0
 ·rw [if_pos h0,qAt_wide,if_pos h0]
  split <;> exact (Rat.add_zero _).symm
 ·rw [if_neg h0,if_neg h0]
  have hs:=j9 hi h0
  by_cases hk:(UA m.vars).length + WD m i = k
  ·subst hk
   rw [if_pos rfl,bA,List.getElem?_set_self (by rw [lG _ _ (by unfold YK;omega)];unfold YK;omega),u9 (by omega),Rat.zero_add]
   rfl
  ·rw [if_neg hk,bA,List.getElem?_set_ne hk,<- bA,qAt_wide,Rat.add_zero]
theorem LZ (m:MD):(UA (fX m).A).length = (UA m.rows).length:=by
 show (UA (aC ((ofA m (UA m.rows).length).map aQ))).length = _
 rw [WB,eA];unfold ofA;rw [eA,List.length_range]
theorem ofP_row (m:MD) {i:Nat} (hi:i < (UA m.rows).length):RJ (fX m).A i = aQ (kG m i):=by
 unfold RJ
 show (UA (aC ((ofA m (UA m.rows).length).map aQ))).getD i QA = _
 rw [WB,bA,List.getElem?_map]
 unfold ofA
 rw [List.getElem?_map,List.getElem?_range hi]
 rfl
theorem ofP_B (m:MD) {i:Nat} (hi:i < (UA m.rows).length):jE (fX m).B i = (MG m i).b.val:=by
 show jE (aQ (ofB m (UA m.rows).length)) i = _
 rw [s5]
 unfold ofB
 rw [bA,List.getElem?_map,List.getElem?_range hi]
 rfl
theorem ofP_Bl (m:MD):(UA (fX m).B).length = (UA m.rows).length:=by
 show (UA (aQ (ofB m (UA m.rows).length))).length = _
 rw [BP];unfold ofB;rw [eA,List.length_range]
theorem SX {m:MD} (h:RtMd m):(UA (fX m).C).length = YK m:=by
 show (UA (aQ (fF m.cost (YK m)))).length = _
 rw [BP,lG _ _ (by rw [h.cost];unfold YK;omega)]
theorem J2 {m:MD} (h:RtMd m):AD (fX m) = SA:=by
 have hs:=FK m (UA m.rows).length
 have hv:=h.v60
 have hr:=h.r60
 unfold AD
 rw [SX h,LZ,ofP_Bl,decide_eq_true (show YK m <= 5000 by unfold YK;omega),decide_eq_true (show (UA m.rows).length <= 90 by omega),decide_eq_true rfl]
 have:jG (AF (fX m)) (UA m.rows).length = TA:=AU (fun i hi=>by
  unfold AF
  rw [ofP_row m hi,BP,FS h hi,SX h]
  simp)
 rw [this];rfl
theorem sumR_tail {n N:Nat} {f:Nat -> Rat} (h:n <= N) (hz:∀ k,n <= k -> k < N -> f k = 0):OB N f = OB n f:=by
 induction N with
 | zero=>have:n = 0:=by omega
         rw [this]
 | succ N ih =>
  by_cases he:n = N + 1
  ·rw [he]
  ·unfold OB
   rw [ih (by omega) (fun k h1 h2=>hz k h1 (by omega)),hz N (by omega) (by omega),Rat.add_zero]
   cases n <;> rfl
theorem d9 {m:MD} {y:VV} (h:(UA m.vars).length <= (UA y).length):(g9 m y).length = (UA m.vars).length:=by
 unfold g9;rw [eA,List.length_take];omega
theorem k9 {m:MD} {y:VV} {k:Nat} (hk:k < (UA m.vars).length):jE (aQ (g9 m y)) k = jE y k:=by
 rw [s5]
 unfold g9 jE dF
 rw [bA,bA,List.getElem?_map,List.getElem?_take_of_lt hk]
 cases (UA y)[k]? with
 | none=>exact cP.symm
 | some r=>rfl
theorem dot_back {m:MD} {c y:VV} {N:Nat} (hc:(UA c).length = (UA m.vars).length) (hN:(UA m.vars).length <= N) (hy:(UA m.vars).length <= (UA y).length):OB N (fun k=>jE c k * jE y k) = aL c (aQ (g9 m y)):=by
 rw [c7]
 unfold dP
 rw [BP,d9 hy,hc,Nat.min_self,sumR_tail hN (fun k h1 _=>by rw [u9 (by omega),Rat.zero_mul])]
 exact dB (fun k hk=>by rw [k9 hk])
theorem U9 {m:MD} (h:RtMd m) {i:Nat} (hi:i < (UA m.rows).length) {y:VV} (hy:(UA y).length = YK m) :
  aL (RJ (fX m).A i) y = aL (MG m i).coef (aQ (g9 m y)) + (if (MG m i).rel = 0 then 0 else ((0 - (MG m i).rel:Int):Rat) * jE y ((UA m.vars).length + WD m i)):=by
 have hv:(UA m.vars).length <= YK m:=by unfold YK;omega
 rw [<- dot_back (N:=YK m) (h.row i hi).1 hv (by omega),c7]
 unfold dP
 rw [ofP_row m hi,BP,FS h hi,hy,Nat.min_self]
 have e:∀ k,jE (aQ (kG m i)) k * jE y k = jE (MG m i).coef k * jE y k + (if (UA m.vars).length + WD m i = k then ((if (MG m i).rel = 0 then 0 else ((0 - (MG m i).rel:Int):Rat)) * jE y k) else 0):=fun k=>by
  rw [s5,ofRow_get h hi,Rat.add_mul]
  congr 1
  split
  ·rfl
  ·exact Rat.zero_mul _
 rw [dB (fun k _=>e k),cM,WC]
 congr 1
 by_cases h0:(MG m i).rel = 0
 ·rw [if_pos h0,if_pos h0]
  split
  ·exact Rat.zero_mul _
  ·rfl
 ·have:=j9 hi h0
  rw [if_neg h0,if_neg h0,if_pos (by unfold YK;omega)]
theorem does_iff (p:PB) (y:VV):r9 p y = SA ↔ AD p = SA /\ (UA y).length = (UA p.C).length /\ (∀ i,i < (UA y).length -> 0 <= jE y i) /\ ∀ i,i < (UA p.A).length -> aL (RJ p.A i) y = jE p.B i:=by
 unfold r9
 simp only [JA,decide_eq_true_eq]
 constructor
 ·rintro ⟨h1,h2,h3,h4⟩
  have h3':jG (pAt UY y) (UA y).length = TA:=by simpa using h3
  refine ⟨h1,h2,fun i hi=>?_,fun i hi=>?_⟩
  ·have:=xG h3' hi
   rwa [show pAt UY y i = decide (jE y i < 0) from rfl,decide_eq_false_iff_not,Rat.not_lt] at this
  ·have:=List.all_eq_true.1 h4 i (zA.2 hi)
   simpa using this
 ·rintro ⟨h1,h2,h3,h4⟩
  refine ⟨h1,h2,?_,?_⟩
  ·have:jG (pAt UY y) (UA y).length = TA:=AU (fun i hi=>by
    rw [show pAt UY y i = decide (jE y i < 0) from rfl,decide_eq_false_iff_not,Rat.not_lt]
    exact h3 i hi)
   rw [this];rfl
  ·unfold doesTo
   rw [List.all_eq_true]
   intro i hi
   rw [h4 i (zA.1 hi)]
   simp
theorem m9 (m:MD) (x:VV) (i:Nat):c5 m x i = SA ↔ ((MG m i).rel <= 0 -> aL (MG m i).coef x <= (MG m i).b.val) /\ (0 <= (MG m i).rel -> (MG m i).b.val <= aL (MG m i).coef x):=by
 unfold c5 okZ
 simp only [Bool.not_eq_true',Bool.or_eq_false_iff,Bool.and_eq_false_iff,decide_eq_false_iff_not,cmpQ_pos,KW,Rat.not_lt]
 constructor
 ·rintro ⟨h1,h2⟩
  exact ⟨fun h=>h1.resolve_left (fun n=>n h),fun h=>h2.resolve_left (fun n=>n h)⟩
 ·rintro ⟨h1,h2⟩
  refine ⟨?_,?_⟩
  ·by_cases h:(MG m i).rel <= 0
   ·exact .inr (h1 h)
   ·exact .inl h
  ·by_cases h:0 <= (MG m i).rel
   ·exact .inr (h2 h)
   ·exact .inl h
theorem feas_iff (m:MD) (x:VV):f4 m x = SA ↔ (UA x).length = (UA m.vars).length /\ (∀ i,i < (UA x).length -> 0 <= jE x i) /\ ∀ i,i < (UA m.rows).length -> c5 m x i = SA:=by
 unfold f4
 simp only [JA,decide_eq_true_eq]
 constructor
 ·rintro ⟨h2,h3,h4⟩
  have h3':jG (pAt UY x) (UA x).length = TA:=by simpa using h3
  refine ⟨h2,fun i hi=>?_,fun i hi=>BU h4 hi⟩
  have:=xG h3' hi
  rwa [show pAt UY x i = decide (jE x i < 0) from rfl,decide_eq_false_iff_not,Rat.not_lt] at this
 ·rintro ⟨h2,h3,h4⟩
  refine ⟨h2,?_,?_⟩
  ·have:jG (pAt UY x) (UA x).length = TA:=AU (fun i hi=>by
    rw [show pAt UY x i = decide (jE x i < 0) from rfl,decide_eq_false_iff_not,Rat.not_lt]
    exact h3 i hi)
   rw [this];rfl
  ·unfold KN
   rw [List.all_eq_true]
   intro i hi
   exact h4 i (zA.1 hi)
theorem does_feas {m:MD} (h:RtMd m) {y:VV} (hd:r9 (fX m) y = SA):f4 m (aQ (g9 m y)) = SA:=by
 obtain ⟨_,d2,d3,d4⟩:=(does_iff _ _).1 hd
 rw [SX h] at d2
 have hv:(UA m.vars).length <= YK m:=by unfold YK;omega
 refine (feas_iff _ _).2 ⟨by rw [BP,d9 (by omega)],fun i hi=>?_,fun i hi=>?_⟩
 ·rw [BP,d9 (by omega)] at hi
  rw [k9 hi]
  exact d3 i (by omega)
 ·have h1:=d4 i (by rw [LZ];exact hi)
  rw [U9 h hi d2,ofP_B m hi] at h1
  obtain ⟨_,r1,r2⟩:=h.row i hi
  rw [m9]
  by_cases h0:(MG m i).rel = 0
  ·rw [if_pos h0,Rat.add_zero] at h1
   rw [h1]
   exact ⟨fun _=>Rat.le_refl,fun _=>Rat.le_refl⟩
  ·rw [if_neg h0] at h1
   have hs:=j9 hi h0
   have hp:=d3 ((UA m.vars).length + WD m i) (by rw [d2];unfold YK;omega)
   have hc:(MG m i).rel = -1 \/ (MG m i).rel = 1:=by omega
   rcases hc with hc | hc
   ·rw [hc] at h1 ⊢
    have e:((0 - -1:Int):Rat) = 1:=rfl
    rw [e,Rat.one_mul] at h1
    exact ⟨fun _=>by grind,fun h=>absurd h (by decide)⟩
   ·rw [hc] at h1 ⊢
    have e:((0 - 1:Int):Rat) = -1:=rfl
    rw [e] at h1
    exact ⟨fun h=>absurd h (by decide),fun _=>by grind⟩
theorem slackL_len {m:MD} {x:VV}:(s4 m x).length = (UA x).length + WD m (UA m.rows).length:=by
 unfold s4;rw [sA,eA,slTo_len m x _ (EA _)]
theorem i9 {m:MD} {x:VV} {k:Nat} (hk:k < (UA x).length):(s4 m x).getD k 0 = jE x k:=by
 unfold s4
 rw [bA,List.getElem?_append_left (by rw [eA];exact hk),List.getElem?_map,aA hk]
 unfold jE;rw [fE hk];rfl
theorem slTo_get (m:MD) (x:VV) (k:Nat) (hk:k <= (UA m.rows).length):∀ i,i < k -> (MG m i).rel ≠ 0 -> (Y9 m x k).getD (WD m i) 0 = ((MG m i).b.val - aL (MG m i).coef x) * ((0 - (MG m i).rel:Int):Rat):=by
 induction k with
 | zero=>intro i hi;omega
 | succ k ih =>
  intro i hi h0
  have hsl:=slTo_len m x k (by omega)
  rw [l9 m x hk]
  by_cases he:i = k
  ·subst he
   rw [FD hk] at h0 ⊢
   rw [bA,List.getElem?_append_right (by omega),hsl,Nat.sub_self]
   unfold t9
   rw [if_neg h0]
   rfl
  ·have h1:=ih (by omega) i (by omega) h0
   have h2:WD m i < WD m k:=by
    have h3:=QN m (show i < (UA m.rows).length by omega)
    rw [FD (by omega)] at h0
    rw [if_neg h0] at h3
    have h4:=XU m (show i + 1 <= k by omega)
    omega
   rw [bA,List.getElem?_append_left (by omega),<- bA]
   exact h1
theorem slTo_mem (m:MD) (x:VV) (k:Nat) (hk:k <= (UA m.rows).length):∀ q ∈ Y9 m x k,∃ i,i < k /\ (MG m i).rel ≠ 0 /\ q = ((MG m i).b.val - aL (MG m i).coef x) * ((0 - (MG m i).rel:Int):Rat):=by
 induction k with
 | zero=>intro q hq;exact absurd hq (by simp [Y9])
 | succ k ih =>
  intro q hq
  rw [l9 m x hk] at hq
  rcases List.mem_append.1 hq with hq | hq
  ·obtain ⟨i,h1,h2⟩:=ih (by omega) q hq
   exact ⟨i,by omega,h2⟩
  ·unfold t9 at hq
   split at hq
   ·simp at hq
   ·rename_i h0
    refine ⟨k,by omega,by rw [FD hk];exact h0,?_⟩
    rw [FD hk]
    exact List.mem_singleton.1 hq
theorem T9 {m:MD} (h:RtMd m) {x:VV} (hf:f4 m x = SA):r9 (fX m) (aQ (s4 m x)) = SA:=by
 obtain ⟨f1,f2,f3⟩:=(feas_iff _ _).1 hf
 have hl:(UA (aQ (s4 m x))).length = YK m:=by rw [BP,slackL_len,f1];rfl
 have hbk:∀ c:VV,aL c (aQ (g9 m (aQ (s4 m x)))) = aL c x:=fun c=>by
  rw [c7,c7]
  unfold dP
  rw [BP,d9 (by rw [hl];unfold YK;omega),f1]
  exact dB (fun k hk=>by rw [k9 (by omega),s5,i9 (by omega)])
 have hpart:∀ i,i < (UA m.rows).length -> (MG m i).rel ≠ 0 -> 0 <= ((MG m i).b.val - aL (MG m i).coef x) * ((0 - (MG m i).rel:Int):Rat):=fun i hi h0=>by
  have h1:=(m9 _ _ _).1 (f3 i hi)
  obtain ⟨_,r1,r2⟩:=h.row i hi
  have hc:(MG m i).rel = -1 \/ (MG m i).rel = 1:=by omega
  rcases hc with hc | hc
  ·rw [hc] at h1 ⊢
   have e:((0 - -1:Int):Rat) = 1:=rfl
   have:=h1.1 (by decide)
   rw [e];grind
  ·rw [hc] at h1 ⊢
   have e:((0 - 1:Int):Rat) = -1:=rfl
   have:=h1.2 (by decide)
   rw [e];grind
 refine (does_iff _ _).2 ⟨J2 h,by rw [hl,SX h],fun i hi=>?_,fun i hi=>?_⟩
 ·rw [s5]
  by_cases hx:i < (UA x).length
  ·rw [i9 hx];exact f2 i hx
  ·rw [BP] at hi
   have hm:(s4 m x).getD i 0 ∈ Y9 m x (UA m.rows).length:=by
    unfold s4 at hi ⊢
    rw [bA,List.getElem?_append_right (by rw [eA];omega),eA]
    rw [sA,eA] at hi
    rw [aA (by omega)]
    exact gA _
   obtain ⟨j,h1,h2,h3⟩:=slTo_mem m x _ (EA _) _ hm
   rw [h3]
   exact hpart j h1 h2
 ·rw [LZ] at hi
  rw [U9 h hi hl,ofP_B m hi,hbk]
  have h1:=(m9 _ _ _).1 (f3 i hi)
  by_cases h0:(MG m i).rel = 0
  ·rw [if_pos h0,Rat.add_zero]
   rw [h0] at h1
   have:=h1.1 (by decide)
   have:=h1.2 (by decide)
   grind
  ·rw [if_neg h0]
   obtain ⟨_,r1,r2⟩:=h.row i hi
   have hs:=j9 hi h0
   have hg:jE (aQ (s4 m x)) ((UA m.vars).length + WD m i) = ((MG m i).b.val - aL (MG m i).coef x) * ((0 - (MG m i).rel:Int):Rat):=by
    rw [s5,<- slTo_get m x _ (EA _) i hi h0]
    unfold s4
    rw [bA,List.getElem?_append_right (by rw [eA,f1];omega),eA,f1,Nat.add_sub_cancel_left,<- bA]
   rw [hg]
   have hc:(MG m i).rel = -1 \/ (MG m i).rel = 1:=by omega
   rcases hc with hc | hc
   ·rw [hc]
    have e:((0 - -1:Int):Rat) = 1:=rfl
    rw [e];grind
   ·rw [hc]
    have e:((0 - 1:Int):Rat) = -1:=rfl
    rw [e];grind
structure FewMd (m:MD):Prop where
 fits:rR m 8 3
 vars:(UA m.vars).length <= 8
 rows:(UA m.rows).length <= 6
 names:∀ s ∈ UA m.vars,s.length <= 1000000
 rnames:∀ r ∈ UA m.rows,r.name.length <= 1000000
theorem fewMd_is {m:MD} (h:RQ m = SA):FewMd m:=by
 unfold RQ at h
 simp only [JA,decide_eq_true_eq] at h
 obtain ⟨h1,h2,h3,h4,h5⟩:=h
 refine ⟨⟨TI h5,fun r hr=>?_⟩,h3,h4,fun s hs=>?_,fun r hr=>?_⟩
 ·obtain ⟨i,hi,rfl⟩:=List.mem_iff_getElem.1 hr
  have:=BU h2 (k:=i) (by omega)
  unfold VF at this
  rw [FD hi] at this
  simp only [JA,decide_eq_true_eq] at this
  exact ⟨TI this.2.1,(TI this.2.2).2 _ (by simp [UA])⟩
 ·obtain ⟨i,hi,rfl⟩:=List.mem_iff_getElem.1 hs
  have:=BU h1 (k:=i) (by omega)
  unfold wP at this
  rw [bA,aA hi] at this
  have h6:(UA m.vars)[i].length <= 20:=by simpa using this
  omega
 ·obtain ⟨i,hi,rfl⟩:=List.mem_iff_getElem.1 hr
  have:=BU h2 (k:=i) (by omega)
  unfold VF at this
  rw [FD hi] at this
  simp only [JA,decide_eq_true_eq] at this
  omega
theorem tN {l:VV} {n L:Nat} (h:vC l n L) (hL:1 <= L) (N:Nat):∀ q ∈ fF l N,SB q L:=fun q hq=>by
 unfold fF at hq
 rcases List.mem_append.1 hq with hq | hq
 ·obtain ⟨r,hr,rfl⟩:=yA.1 hq
  exact (h.2 r hr).val hL
 ·rw [(List.mem_replicate.1 hq).2];exact HC L hL
theorem fits_ofP {m:MD} (h:RtMd m) (hf:FewMd m):pR (fX m) 14 3:=by
 have hs:=FK m (UA m.rows).length
 have hN:YK m <= 14:=by have:=hf.vars;have:=hf.rows;unfold YK;omega
 refine ⟨⟨by rw [LZ];have:=hf.rows;omega,fun v hv=>?_⟩,?_,?_⟩
 ·obtain ⟨i,hi,rfl⟩:=List.mem_iff_getElem.1 hv
  have hi':i < (UA m.rows).length:=by rw [<- LZ];exact hi
  rw [<- mF hi,ofP_row m hi']
  have hr:=h.row i hi'
  have hcf:=(hf.fits.2 _ (gA hi')).1
  rw [<- FD hi'] at hcf
  refine UO (by rw [FS h hi'];exact hN) (fun q hq=>?_)
  unfold kG at hq
  split at hq
  ·exact tN hcf (by decide) _ q hq
  ·rcases List.mem_or_eq_of_mem_set hq with hq | hq
   ·exact tN hcf (by decide) _ q hq
   ·rw [hq];exact (FG _ (by omega) (by omega)).mono (by decide)
 ·refine UO (by unfold ofB;rw [eA,List.length_range];have:=hf.rows;omega) (fun q hq=>?_)
  unfold ofB at hq
  obtain ⟨i,hi,rfl⟩:=yA.1 hq
  rw [zA] at hi
  have:=(hf.fits.2 _ (gA hi)).2
  rw [<- FD hi] at this
  exact this.val (by decide)
 ·exact UO (by rw [lG _ _ (by rw [h.cost];unfold YK;omega)];exact hN) (tN hf.fits.1 (by decide) _)
theorem pR.mono {p:PB} {n L K:Nat} (h:pR p n L) (hk:L <= K):pR p n K:=⟨⟨h.1.1,fun v hv=>(h.1.2 v hv).monoL hk⟩,h.2.1.monoL hk,h.2.2.monoL hk⟩
theorem rR.mono {m:MD} {n L K:Nat} (h:rR m n L) (hk:L <= K):rR m n K:=⟨h.1.monoL hk,fun r hr=>⟨(h.2 r hr).1.monoL hk,(h.2 r hr).2.mono hk⟩⟩
theorem hmIn_has {key:Nat -> Nat -> Int} {j:Nat} {base:List (Int × Int)}:∀ i a,a < i -> ((pK key j base i).lookup (key j a)).isSome = SA
 | 0,a,h=>absurd h (Nat.not_lt_zero _)
 | i + 1,a,h=>by
  show (List.lookup (key j a) ((key j i,(j:Int)) :: pK key j base i)).isSome = SA
  rw [List.lookup_cons]
  cases he:(key j a == key j i) with
  | true=>rfl
  | false =>
   refine hmIn_has i a (Nat.lt_of_le_of_ne (Nat.le_of_lt_succ h) (fun e=>?_))
   rw [e] at he
   simp at he
theorem fT {m:MD} {n:NB} (h:OG m n = SA) {b:Nat} (hb:b < (UA n).length):(UA (UD n b)).Pairwise (· ≠ ·):=by
 rw [List.pairwise_iff_getElem]
 intro i j hi hj hij e
 have h1:=okTo_at h hb (show j < CF n b from hj)
 unfold okK at h1
 simp only [JA,decide_eq_true_eq] at h1
 have h2:=hmIn_has (key:=NG n) (j:=b) (base:=RF (NG n) (CF n) b) j i hij
 have e1:NG n b i = NG n b j:=by
  unfold NG
  rw [bA,bA,aA hi,aA hj,e]
 rw [e1] at h2
 rw [h2] at h1
 simp at h1
theorem blk_len {m:MD} {n:NB} (h:OG m n = SA) {b:Nat} (hb:b < (UA n).length):(UA (UD n b)).length <= (UA m.vars).length:=by
 have hin:=kR h hb
 have hnd:=fT h hb
 have h1:((UA (UD n b)).map Int.toNat).Nodup:=by
  rw [List.nodup_iff_pairwise_ne,List.pairwise_map]
  exact hnd.imp_of_mem (fun {x y} hx hy hne e=>hne (by have:=(hin x hx).1;have:=(hin y hy).1;omega))
 have h2:=h1.length_le_of_subset (l₂:=List.range (UA m.vars).length) (fun z hz=>by
  obtain ⟨x,hx,rfl⟩:=yA.1 hz
  have:=hin x hx
  exact zA.2 (by omega))
 rw [eA,List.length_range] at h2
 exact h2
theorem nN {l:List ZJ}:vJ l = SA ↔ (∀ s ∈ l,nmB s = SA) /\ l.Pairwise (· ≠ ·):=by
 have hg:∀ i (hi:i < l.length),l.getD i [] = l[i]:=fun i hi=>by rw [bA,aA hi];rfl
 have key:vJ l = SA ↔ ∀ i,i < l.length -> nmB (l.getD i []) = SA /\ idxS l (l.getD i []) = (i:Int):=by
  unfold vJ nmTo
  rw [List.all_eq_true]
  unfold nmAt
  simp only [zA,JA,decide_eq_true_eq]
 rw [key]
 constructor
 ·intro h
  refine ⟨fun s hs=>?_,?_⟩
  ·obtain ⟨i,hi,rfl⟩:=List.getElem_of_mem hs
   have:=(h i hi).1
   rwa [hg i hi] at this
  ·rw [List.pairwise_iff_getElem]
   intro i j hi hj hij e
   have h1:=(h i hi).2
   have h2:=(h j hj).2
   rw [hg i hi] at h1
   rw [hg j hj,<- e,h1] at h2
   omega
 ·rintro ⟨h1,h2⟩ i hi
  rw [hg i hi]
  refine ⟨h1 _ (gA hi),?_⟩
  unfold idxS
  rw [List.pairwise_iff_getElem] at h2
  refine QI hi (AU (fun k hk=>?_)) ?_
  ·unfold sIs
   rw [hg k (by omega)]
   have:=h2 k i (by omega) hi hk
   simpa using fun e=>this e.symm
  ·unfold sIs
   rw [hg i hi]
   simp
theorem rG {m:MD} {n:NB} {b:Nat} {r:RowM}:∀ k,r ∈ iF m n b k -> ∃ i,i < k /\ r = OX m n b i
 | 0,h=>by cases h
 | k + 1,h=>by
  unfold iF at h
  split at h
  ·rcases List.mem_append.1 h with h | h
   ·obtain ⟨i,hi,e⟩:=rG k h
    exact ⟨i,by omega,e⟩
   ·exact ⟨k,by omega,List.mem_singleton.1 h⟩
  ·obtain ⟨i,hi,e⟩:=rG k h
   exact ⟨i,by omega,e⟩
theorem mN (m:MD) (n:NB) (b:Nat):∀ k,(iF m n b k).length <= k
 | 0=>EA _
 | k + 1=>by
  have:=mN m n b k
  unfold iF
  split
  ·rw [sA];simp;omega
  ·omega
theorem DS {m:MD} {n:NB} {b:Nat} (h:(DH m).Pairwise (· ≠ ·)):∀ k,k <= (UA m.rows).length -> ((iF m n b k).map RowM.name).Pairwise (· ≠ ·)
 | 0,_=>List.Pairwise.nil
 | k + 1,hk=>by
  have ih:=DS (n:=n) (b:=b) h k (by omega)
  unfold iF
  split
  ·rw [List.map_append,List.pairwise_append]
   refine ⟨ih,List.pairwise_singleton _ _,fun x hx y hy e=>?_⟩
   obtain ⟨r,hr,rfl⟩:=yA.1 hx
   obtain ⟨i,hi,rfl⟩:=rG k hr
   have hy':y = (OX m n b k).name:=by simpa using hy
   rw [List.pairwise_iff_getElem] at h
   have hl:(DH m).length = (UA m.rows).length:=by unfold DH;rw [eA]
   have:=h i k (by omega) (by omega) hi
   refine this ?_
   rw [hy'] at e
   have e1:(MG m i).name = (MG m k).name:=e
   rw [FD (by omega),FD (by omega)] at e1
   unfold DH
   rw [List.getElem_map,List.getElem_map]
   exact e1
  ·exact ih
theorem own_right {m:MD} {n:NB} {b:Nat} (hm:VD m = SA) (h:OG m n = SA) (hb:b < (UA n).length):VD (GH m n b) = SA:=by
 have rt:=rt_of hm
 have hin:=kR h hb
 have hnd:=fT h hb
 have hbl:=blk_len h hb
 unfold VD at hm
 simp only [JA,decide_eq_true_eq] at hm
 obtain ⟨_,_,_,hv,hr,_⟩:=hm
 rw [nN] at hv hr
 have hol:=mN m n b (UA m.rows).length
 have hv60:=rt.v60
 have hr60:=rt.r60
 have e1:UA (GH m n b).vars = sF m.vars (UA (UD n b)):=WB _
 have e2:UA (GH m n b).cost = tF m.cost (UA (UD n b)):=WB _
 have e3:UA (GH m n b).rows = iF m n b (UA m.rows).length:=WB _
 have l1:(sF m.vars (UA (UD n b))).length = (UA (UD n b)).length:=by unfold sF;rw [eA]
 have l2:∀ v,(tF v (UA (UD n b))).length = (UA (UD n b)).length:=fun v=>by unfold tF;rw [eA]
 unfold VD
 simp only [JA,decide_eq_true_eq]
 refine ⟨by rw [e1,l1];omega,by rw [e1,e2,l1,l2],by rw [e3];omega,?_,?_,?_⟩
 ·rw [nN,e1]
  refine ⟨fun s hs=>?_,?_⟩
  ·unfold sF at hs
   obtain ⟨z,hz,rfl⟩:=yA.1 hs
   have:=hin z hz
   rw [bA,aA (by omega)]
   exact hv.1 _ (gA (by omega))
  ·unfold sF
   rw [List.pairwise_map]
   refine hnd.imp_of_mem (fun {x y} hx hy hne e=>?_)
   have hx':=hin x hx
   have hy':=hin y hy
   have hv2:=hv.2
   rw [List.pairwise_iff_getElem] at hv2
   rw [bA,aA (by omega),bA,aA (by omega)] at e
   simp only [DA] at e
   rcases Nat.lt_trichotomy x.toNat y.toNat with c | c | c
   ·exact hv2 _ _ (by omega) (by omega) c e
   ·exact hne (by omega)
   ·exact hv2 _ _ (by omega) (by omega) c e.symm
 ·have e4:DH (GH m n b) = (iF m n b (UA m.rows).length).map RowM.name:=by unfold DH;rw [e3]
  rw [nN,e4]
  refine ⟨fun s hs=>?_,DS hr.2 _ (EA _)⟩
  obtain ⟨r,hr',rfl⟩:=yA.1 hs
  obtain ⟨i,hi,rfl⟩:=rG _ hr'
  refine hr.1 _ ?_
  show (MG m i).name ∈ _
  rw [FD hi]
  unfold DH
  exact List.mem_map_of_mem (gA hi)
 ·have:jG (HH (GH m n b)) (UA (GH m n b).rows).length = TA:=AU (fun k hk=>by
   unfold HH
   rw [FD hk]
   have hmem:=gA hk
   generalize (UA (GH m n b).rows)[k] = r at hmem
   rw [e3] at hmem
   obtain ⟨i,hi,rfl⟩:=rG _ hmem
   have h2:=rt.row i hi
   unfold mM OX
   rw [e1,l1]
   simp only
   rw [WB,l2]
   simp [h2.2.1,h2.2.2])
  rw [this];rfl
theorem own_few {m:MD} {n:NB} {b:Nat} (fm:FewMd m) (h:OG m n = SA) (hb:b < (UA n).length):FewMd (GH m n b):=by
 have hbl:=blk_len h hb
 have hin:=kR h hb
 have hol:=mN m n b (UA m.rows).length
 have hv8:=fm.vars
 have hr6:=fm.rows
 have l2:∀ v,(tF v (UA (UD n b))).length = (UA (UD n b)).length:=fun v=>by unfold tF;rw [eA]
 have hp:∀ v,vC v 8 3 -> vC (aC (tF v (UA (UD n b)))) 8 3:=fun v hv=>by
  refine ⟨by rw [WB,l2];omega,fun r hr=>?_⟩
  rw [WB] at hr
  unfold tF at hr
  obtain ⟨z,hz,rfl⟩:=yA.1 hr
  exact hv.at _
 refine ⟨⟨hp _ fm.fits.1,fun r hr=>?_⟩,?_,?_,fun s hs=>?_,fun r hr=>?_⟩
 ·rw [show UA (GH m n b).rows = iF m n b (UA m.rows).length from WB _] at hr
  obtain ⟨i,hi,rfl⟩:=rG _ hr
  have h3:=fm.fits.2 (MG m i) (by rw [FD hi];exact gA hi)
  exact ⟨hp _ h3.1,h3.2⟩
 ·rw [show UA (GH m n b).vars = sF m.vars (UA (UD n b)) from WB _]
  unfold sF;rw [eA];omega
 ·rw [show UA (GH m n b).rows = iF m n b (UA m.rows).length from WB _];omega
 ·rw [show UA (GH m n b).vars = sF m.vars (UA (UD n b)) from WB _] at hs
  unfold sF at hs
  obtain ⟨z,hz,rfl⟩:=yA.1 hs
  have:=hin z hz
  rw [bA,aA (by omega)]
  exact fm.names _ (gA (by omega))
 ·rw [show UA (GH m n b).rows = iF m n b (UA m.rows).length from WB _] at hr
  obtain ⟨i,hi,rfl⟩:=rG _ hr
  exact fm.rnames (MG m i) (by rw [FD hi];exact gA hi)
theorem WY {p:PB} {c:VV} (h2:(UA c).length <= (UA p.C).length):(UA (WH p c).C).length = (UA p.C).length:=by
 show (UA (aQ (yI p c))).length = _
 rw [nD,askC_len h2]
theorem ask_right {p:PB} {c:VV} (hr:AD p = SA) (h2:(UA c).length <= (UA p.C).length):AD (WH p c) = SA:=by
 have e:AF (WH p c) = AF p:=by
  funext i
  unfold AF
  rw [WY h2];rfl
 unfold AD at hr ⊢
 rw [WY h2,e]
 exact hr
theorem fits_askC {p:PB} {c:VV} {n L:Nat} (hc:vC c n L) (hL:1 <= L):∀ q ∈ yI p c,SB q L:=fun q hq=>by
 unfold yI at hq
 rcases List.mem_append.1 hq with h | h
 ·obtain ⟨x,hx,rfl⟩:=yA.1 h
  exact (hc.2 x hx).val hL
 ·rw [(List.mem_replicate.1 h).2];exact HC _ hL
theorem CS {p:PB} {c:VV} (fP:pR p 14 3) (hm:(UA p.A).length <= 6) (hr:AD p = SA) (hc:vC c 14 3) (h2:(UA c).length <= (UA p.C).length):PFits (WH p c) 3:=by
 obtain ⟨f1,f2,f3⟩:=fP
 have f5:∀ m,m <= 6 -> 4 ^ m * (3 + 1) <= 4000000 /\ m * (4 ^ m * (3 + 1) + 3 + 1) <= 8989000:=by decide
 refine ⟨ask_right hr h2,⟨by have:=f1.1;show (UA p.A).length <= _;omega,fun v hv=>⟨by have:=(f1.2 v hv).1;omega,(f1.2 v hv).2⟩⟩,⟨by have:=f2.1;show (UA p.B).length <= _;omega,f2.2⟩,fun r hr=>?_,by decide,by decide,(f5 _ hm).1,(f5 _ hm).2⟩
 rw [show UA (WH p c).C = (yI p c).map eB from RE _] at hr
 obtain ⟨q,hq,rfl⟩:=yA.1 hr
 exact QB (fits_askC hc (by decide) q hq)
structure Asked (p:PB) (vs:Option (List Int)) (c:VV) (r:SR) (T:Nat):Prop where
 steps:T <= 41763
 told:Told (WH p c) 16384 r T
 yes:∀ bu:Int,(T:Int) <= bu -> bu <= 9223372036854775807 -> YA Tryz.prog 17 [aBk p vs,aV c,aI bu] (.ret (.tup [offV p c r,aI T,aI 0]))
 no:∀ bu:Int,0 <= bu -> bu < T -> YA Tryz.prog 17 [aBk p vs,aV c,aI bu] (.ret (.tup [aOf0,aI 0,aI 10]))
 neg:∀ bu:Int,bu < 0 -> YA Tryz.prog 17 [aBk p vs,aV c,aI bu] (.ret (.tup [aOf0,aI 0,aI 1]))
theorem oF.mono' {l:List Rat} {K K':Nat} (h:oF l K) (hk:K <= K'):oF l K':=fun q hq=>(h q hq).mono hk
theorem asked (p q:PB) (vs:Option (List Int)) (c:VV) (fP:pR p 14 3) (hm:(UA p.A).length <= 6) (hr:AD p = SA) (hc:vC c 14 3) (h1:(UA c).length = (UA vs).length) (h2:(UA c).length <= (UA p.C).length)
  (K:Nat) (hq:PFits q K) (he:GC (WH p c) = GC q):∃ r T,Asked p vs c r T /\ Told q (4 ^ (UA q.A).length * (K + 1)) r T:=by
 obtain ⟨r,T,t1,t2,k,k1,k2⟩:=told2 (WH p c) q 3 K (CS fP hm hr hc h2) hq he
 have hn:(UA p.C).length <= 14:=fP.2.2.1
 rw [WY h2] at k2
 have hm':(UA (WH p c).A).length <= 6:=hm
 have hT:=steps_price hm' hn k1 k2
 have hK:4 ^ (UA (WH p c).A).length * (3 + 1) <= 16384:=by
  have:∀ m,m <= 6 -> 4 ^ m * (3 + 1) <= 16384:=by decide
  exact this _ hm
 have t1':Told (WH p c) 16384 r T:=⟨t1.steps,t1.prov,t1.crn,t1.blen,t1.fx.mono' hK,t1.fy.mono' hK,t1.fr.mono' hK,t1.call⟩
 refine ⟨r,T,⟨hT,t1',fun bu b1 b2=>?_,fun bu b1 b2=>?_,fun bu b1=>?_⟩,t2⟩
 ·have hs:=t1.call bu (by omega) b2
  rw [if_pos b1] at hs
  exact ask_ok p vs c bu 14 3 16384 hc (by decide) (by decide) (by decide) (by decide) (by decide) (by decide) hr h1 h2 hn r T t1'.fx t1'.fr t1.prov hs
 ·have hs:=t1.call bu b1 (by omega)
  rw [if_neg (by omega)] at hs
  exact ask_err p vs c bu 10 14 3 hc (by decide) (by decide) (by decide) hr h1 h2 (by decide) hs
 ·exact ask_err p vs c bu 1 14 3 hc (by decide) (by decide) (by decide) hr h1 h2 (by decide) (solve_neg (WH p c) bu b1)
structure Blk14 (m:MD) (n:NB) (b:Nat) (M:MD):Prop where
 pof:YA Tryz.prog 11 [aMd m,aNo n,aI b] (.ret (.tup [aBk (fX M) (UD n b),aI 0]))
 rt:RtMd M
 fm:FewMd M
 vl:(UA M.vars).length = (UA (UD n b)).length
 fit:pR (fX M) 14 3
 rows:(UA (fX M).A).length <= 6
 right:AD (fX M) = SA
 len:(UA (UD n b)).length <= (UA (fX M).C).length
 in8:inB (UA m.vars).length (UA (UD n b))
theorem blk14 {m:MD} {n:NB} {b:Nat} (hn:FitsN n) (fm:FewMd m) (hb:bH m n = SA) (hbl:b < (UA n).length):Blk14 m n b (GH m n b):=by
 have hb':=hb
 unfold bH at hb'
 simp only [JA] at hb'
 have hr:=own_right hb'.2.2 hb'.2.1 hbl
 have rt:=rt_of hr
 have fm2:=own_few fm hb'.2.1 hbl
 have hvl:(UA (GH m n b).vars).length = (UA (UD n b)).length:=by
  rw [show UA (GH m n b).vars = sF m.vars (UA (UD n b)) from WB _]
  unfold sF;rw [eA]
 have hof:=sof_yes (GH m n b) 8 3 fm2.fits (by decide) (by decide) (by decide) fm2.names fm2.rnames hr
 refine ⟨pof_yes m n b 3 hn (by have:=fm.vars;omega) fm.names fm.rnames (fun r hr x hx=>(fm.fits.2 r hr).1.2 x hx) (by decide) hb hbl _ _ hof,rt,fm2,hvl,fits_ofP rt fm2,by rw [LZ];exact fm2.rows,J2 rt,?_,kR hb'.2.1 hbl⟩
 rw [SX rt]
 unfold YK
 omega
theorem atQ_pick {l:VV} {p:List Int} (h:inB (UA l).length p):atQ l p = tF l p:=by
 unfold atQ tF
 refine wA (fun z hz=>?_)
 unfold atR
 rw [if_pos (h z hz)]
abbrev c4:CC:=(.seq (.reg [(oD 3 (.box 26 (tP 0))),(oD 4 (.box 29 (tP 1))),(mB 6 TA)]) (.seq (.seq (.reg [(lT 19 3 3),(lT 20 1 4),(oD 21 (.callf (.func 9) [(tP 19),(tP 20)])),(uN 22 21)]) (.cond (tP 22) (.seq (.reg [(oD 23 (.callf (.func 10) [])),(mV 6 23)]) .ret) .skip)) (.seq (.reg [(lT 25 3 3),(lT 26 1 4),(mV 27 2),(oD 28 (.callf (.func 11) [(tP 25),(tP 26),(tP 27)])),(mV 24 28),(eX 29 24 0),(eX 30 24 1),(oD 7 (.new 37 [(.slice QA 0 0),(.slice QA 0 0),(.slice QA 0 0),(.slice QA 0 0)])),(sT 4 7 29),(mV 8 30)]) (.seq (.seq (.reg [(mV 31 8),(bC 32 .neq 31 0)]) (.cond (tP 32) (.seq (.reg [(oD 33 (.callf (.func 10) [])),(mV 6 33)]) .ret) .skip)) (.seq (.reg [(fA 34 1 3),(lF 35 1 34),(fA 36 3 7),(lF 37 1 36),(oD 38 (.callf (.func 13) [(tP 35),(tP 37)])),(mV 9 38)]) (.seq (.reg [(lT 40 4 7),(mV 41 9),(oD 42 (.callf (.func 17) [(tP 40),(tP 41),(.const (.int .i64 (65536)))])),(mV 39 42),(eX 43 39 0),(eX 44 39 1),(eX 45 39 2),(oD 10 (.new 56 [(.int .i64 (0)),(.slice QA 0 0),(.bool TA),(.slice QA 0 0),(.slice QA 0 0)])),(sT 5 10 43),(mV 11 44),(mV 12 45)]) (.seq (.reg [(lT 47 4 7),(mV 48 9),(mV 49 11),(oD 50 (.callf (.func 17) [(tP 47),(tP 48),(tP 49)])),(mV 46 50),(eX 51 46 0),(eX 52 46 1),(eX 53 46 2),(oD 13 (.new 56 [(.int .i64 (0)),(.slice QA 0 0),(.bool TA),(.slice QA 0 0),(.slice QA 0 0)])),(sT 5 13 51),(mV 14 52),(mV 15 53)]) (.seq (.seq (.reg [(mV 54 12),(bC 55 .neq 54 0),(mV 56 55),(gM 57 56 TA 15),(oG 58 56 TA (.bin .neq (tP 57) (.const (.int .i64 (0))))),(pT 59 56 58),(mV 60 59),(gM 61 60 TA 14),(gM 62 60 TA 11),(oG 63 60 TA (.bin .neq (tP 61) (tP 62))),(pT 64 60 63),(mV 65 64),(oG 66 65 TA (.faddr 0 (tP 13))),(oG 67 65 TA (.load 1 TA (tP 66))),(oG 68 65 TA (.faddr 0 (tP 10))),(oG 69 65 TA (.load 1 TA (tP 68))),(oG 70 65 TA (.bin .neq (tP 67) (tP 69))),(pT 71 65 70),(mV 72 71),(oG 73 72 TA (.faddr 1 (tP 13))),(oG 74 72 TA (.load 1 TA (tP 73))),(oG 75 72 TA (.faddr 1 (tP 10))),(oG 76 72 TA (.load 1 TA (tP 75))),(oG 77 72 TA (.callf (.func 16) [(tP 74),(tP 76)])),(oG 78 72 TA (.un .not (tP 77))),(pT 79 72 78)]) (.cond (tP 79) (.seq (.reg [(mB 6 TA)]) .ret) .skip)) (.seq (.reg [(lT 81 4 7),(mV 82 9),(mV 83 11),(bC 84 .sub 83 1),(oD 85 (.callf (.func 17) [(tP 81),(tP 82),(tP 84)])),(mV 80 85),(eX 86 80 0),(eX 87 80 1),(eX 88 80 2),(oD 16 (.new 56 [(.int .i64 (0)),(.slice QA 0 0),(.bool TA),(.slice QA 0 0),(.slice QA 0 0)])),(sT 5 16 86),(mV 17 87),(mV 18 88)]) (.seq (.seq (.reg [(mV 89 11),(bC 90 .eql 89 0)]) (.cond (tP 90) (.seq (.reg [(mV 91 18),(bC 92 .eql 91 1),(mV 93 92),(oG 94 93 SA (.callf (.func 10) [])),(pF 95 93 94),(mV 6 95)]) .ret) .skip)) (.seq (.reg [(mV 96 18),(bC 97 .eql 96 10),(mV 98 97),(oG 99 98 SA (.callf (.func 10) [])),(pF 100 98 99),(mV 6 100)]) .ret)))))))))))
end Go.Proofs.YtncgbjhojbnecaaGreat
