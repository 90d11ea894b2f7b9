/- Walks of offcutlaw12: SimplexLeast (its problem, and what is known of it). -/
import Derived.Test.YtncgbjhojbnecaaSH
set_option linter.unusedSimpArgs false
set_option linter.unusedVariables false
set_option linter.unnecessarySimpa false
set_option maxRecDepth 100000
set_option maxHeartbeats 4000000
namespace Go.Proofs.Ytncgbjhojbnecaa
open Go Go.Am Go.Proofs Go.RowKit Go.Off
open Nat renaming reduceAdd -> nA,reduceSub -> nS,reduceMul -> nM,reduceBEq -> nB
open Int renaming reduceToNat -> iT,reduceAdd -> iA,reduceSub -> iS,reduceMul -> iM,reduceNeg -> iN
def rowsI (a:IM) (i:Nat):QM:=(List.range i).map fun j=>rInts (mIs a j)
theorem rowsI_succ (a:IM) (i:Nat):rowsI a (i + 1) = rowsI a i ++ [rInts (mIs a i)]:=by unfold rowsI;rw [List.range_succ,List.map_append];rfl
theorem rowsI_len (a:IM) (i:Nat):(rowsI a i).length = i:=by unfold rowsI;rw [List.length_map,List.length_range]
def ipB (a:IM) (b c:Option (List Int)):PB:=⟨mL (rowsI a (osl a).length),rowV (rInts b),rowV (rInts c)⟩
section
variable {a:IM} {b c:Option (List Int)}
theorem ip_Al:(osl (ipB a b c).A).length = (osl a).length:=by show (osl (mL _)).length = _;rw [len_mL,rowsI_len]
theorem ip_Bl:(osl (ipB a b c).B).length = (osl b).length:=by show (osl (rowV _)).length = _;rw [len_rowV,rInts_len]
theorem ip_Cl:(osl (ipB a b c).C).length = (osl c).length:=by show (osl (rowV _)).length = _;rw [len_rowV,rInts_len]
theorem ip_At {i:Nat} (h:i < (osl a).length):mAt (ipB a b c).A i = rowV (rInts (osl a)[i]):=by
 show mAt (mL (rowsI a (osl a).length)) i = _
 rw [mAt_mL (by rw [rowsI_len];exact h)]
 congr 1
 rw [<- mIs_in h]
 exact getD_mapR _ _ i [] h
theorem ip_right (h:LeastOk a b c):rightB (ipB a b c) = true:=by
 have h1:=h.two
 have h2:=h.bl
 have h3:=h.cl
 unfold rightB
 rw [ip_Al,ip_Bl,ip_Cl,decide_eq_true (by omega:(osl c).length <= 5000),decide_eq_true (by omega:(osl a).length <= 90),decide_eq_true h2]
 have:anyI (rowBad (ipB a b c)) (osl a).length = false:=anyI_of (fun i hi=>by
  unfold rowBad
  rw [ip_At hi,len_rowV,rInts_len,ip_Cl,h.rl i hi]
  simp)
 rw [this];rfl
theorem ip_pfits (h:LeastOk a b c) (ia:∀ s ∈ osl a,∀ n ∈ osl s,-9223372036854775808 <= n /\ n <= 9223372036854775807) (ib:∀ n ∈ osl b,-9223372036854775808 <= n /\ n <= 9223372036854775807) (ic:∀ n ∈ osl c,-9223372036854775808 <= n /\ n <= 9223372036854775807):PFits (ipB a b c) 3:=by
 have h1:=h.two
 have h2:=h.bl
 have h3:=h.cl
 have f5:∀ m,m <= 4 -> 4 ^ m * (3 + 1) <= 4000000 /\ m * (4 ^ m * (3 + 1) + 3 + 1) <= 8989000:=by decide
 refine ⟨ip_right h,⟨by rw [ip_Al];omega,fun v hv=>?_⟩,?_,?_,by decide,by decide,by rw [ip_Al];exact (f5 _ (by omega)).1,by rw [ip_Al];exact (f5 _ (by omega)).2⟩
 ·obtain ⟨i,hi,rfl⟩:=List.mem_iff_getElem.1 hv
  rw [ip_Al] at hi
  rw [<- mAt_in,ip_At hi]
  exact fits_rowV (by rw [rInts_len,h.rl i hi];omega) (fits_ints (ia _ (List.getElem_mem hi)))
 ·exact fits_rowV (by rw [rInts_len];omega) (fits_ints ib)
 ·exact (fits_rowV (n:=6) (by rw [rInts_len];exact h3) (fits_ints ic)).2
theorem ip_int (h:LeastOk a b c):IntP (pfOf (ipB a b c)) (gA a) (iAt b) (iAt c):=by
 have key:∀ (s:Option (List Int)) (k:Nat),qAt (rowV (rInts s)) k = (iAt s k:Rat):=fun s k=>by rw [qAt_rowV,rInts_at]
 refine ⟨fun i k hi _=>?_,fun i _=>key b i,fun k _=>key c k⟩
 have hi':i < (osl a).length:=by
  have:i < (osl (ipB a b c).A).length:=hi
  rw [ip_Al] at this
  exact this
 show qAt (mAt (ipB a b c).A i) k = _
 rw [ip_At hi',key]
 unfold gA
 rw [mIs_in hi']
theorem ip_m:(pfOf (ipB a b c)).m = (osl a).length:=ip_Al
theorem ip_n:(pfOf (ipB a b c)).n = (osl c).length:=ip_Cl
theorem least_told (h:LeastOk a b c) {r:SR} (hp:Prov (pfOf (ipB a b c)) r) (hc:r.v = 2 \/ Crn (pfOf (ipB a b c)) r.X):((bsI a b c (osl c).length).f = true ↔ r.v ≠ 2) /\ (r.v = 1 -> (bsI a b c (osl c).length).val = cxP (pfOf (ipB a b c)) r.X):=by
 have hi:=ip_int h
 have hy:=least_yes hi
 have ho:=fun hx hcr=>least_of hi (by rw [ip_m];exact h.two) (x:=r.X) hx hcr
 rw [ip_m,ip_n] at hy ho
 refine ⟨⟨fun hf hv=>?_,fun hv=>?_⟩,fun hv=>?_⟩
 ·obtain ⟨x,hx,_⟩:=hy hf
  exact prov_no hp hv hx
 ·exact (ho (prov_feas hp hv) (hc.resolve_left hv)).1
 ·have hv2:r.v ≠ 2:=by omega
  obtain ⟨o1,o2⟩:=ho (prov_feas hp hv2) (hc.resolve_left hv2)
  obtain ⟨x,hx,hxc⟩:=hy o1
  have:=prov_le hp hv hx
  rw [hxc] at this
  exact Rat.le_antisymm o2 this
end
def small20 (n:Int):Prop:=-20 <= n /\ n <= 20
def GoodTo (a:IM) (b c:Option (List Int)) (i:Nat):Prop:=∀ j (h:j < (osl a).length),j < i -> (osl (osl a)[j]).length = (osl c).length /\ ∀ n ∈ osl (osl a)[j] ++ osl b ++ osl c,-20 <= n /\ n <= 20
theorem cx_dot3 {p:PB} {x:List Rat} (hx:x.length = (osl p.C).length):dotV p.C (rowV x) = cxP (pfOf p) x:=by
 rw [dot_sum]
 unfold vmin
 rw [len_rowV,hx,Nat.min_self]
 exact sumR_congr (fun i _=>by rw [qAt_rowV];rfl)
abbrev c5_k1:CC:=(.seq (.reg [⟨some 88,none,.load 3 true (.tmp 7)⟩,⟨some 89,none,.callf (.func 13) [(.tmp 88),(.const (.int .i64 (65536)))]⟩,⟨some 87,none,.mv (.tmp 89)⟩,⟨some 90,none,.ext (.tmp 87) 0⟩,⟨some 91,none,.ext (.tmp 87) 1⟩,⟨some 11,none,.new 30 [(.int .i64 (0)),(.slice none 0 0),(.slice none 0 0),(.slice none 0 0),(.slice none 0 0),(.int .i64 (0))]⟩,⟨none,none,.store 6 (.tmp 11) (.tmp 90)⟩,⟨some 12,none,.mv (.tmp 91)⟩]) (.seq (.reg [⟨some 93,none,.mv (.tmp 0)⟩,⟨some 94,none,.mv (.tmp 1)⟩,⟨some 95,none,.mv (.tmp 2)⟩,⟨some 96,none,.callf (.func 21) [(.tmp 93),(.tmp 94),(.tmp 95)]⟩,⟨some 92,none,.mv (.tmp 96)⟩,⟨some 97,none,.ext (.tmp 92) 0⟩,⟨some 98,none,.ext (.tmp 92) 1⟩,⟨some 99,none,.ext (.tmp 92) 2⟩,⟨some 13,none,.mv (.tmp 97)⟩,⟨some 14,none,.mv (.tmp 98)⟩,⟨some 15,none,.mv (.tmp 99)⟩]) (.seq (.seq (.reg [⟨some 100,none,.mv (.tmp 12)⟩,⟨some 101,none,.bin .neq (.tmp 100) (.const (.int .i64 (0)))⟩,⟨some 102,none,.mv (.tmp 101)⟩,⟨some 103,(some (102,false)),.mv (.tmp 15)⟩,⟨some 104,(some (102,false)),.faddr 0 (.tmp 11)⟩,⟨some 105,(some (102,false)),.load 1 false (.tmp 104)⟩,⟨some 106,(some (102,false)),.bin .eql (.tmp 105) (.const (.int .i64 (2)))⟩,⟨some 107,(some (102,false)),.beq false (.tmp 103) (.tmp 106)⟩,⟨some 108,none,.pick (.tmp 102) (.const (.bool true)) (.tmp 107)⟩]) (.cond (.tmp 108) (.seq (.reg [⟨some 6,none,.mv (.const (.bool false))⟩]) .ret) .skip)) (.seq (.seq (.reg [⟨some 109,none,.faddr 0 (.tmp 11)⟩,⟨some 110,none,.load 1 false (.tmp 109)⟩,⟨some 111,none,.bin .neq (.tmp 110) (.const (.int .i64 (1)))⟩]) (.cond (.tmp 111) (.seq (.reg [⟨some 112,none,.callf (.func 12) []⟩,⟨some 6,none,.mv (.tmp 112)⟩]) .ret) .skip)) (.seq (.reg [⟨some 114,none,.mv (.tmp 13)⟩,⟨some 115,none,.mv (.tmp 14)⟩,⟨some 116,none,.callf (.func 22) [(.tmp 114),(.tmp 115)]⟩,⟨some 113,none,.mv (.tmp 116)⟩,⟨some 117,none,.ext (.tmp 113) 0⟩,⟨some 118,none,.ext (.tmp 113) 1⟩,⟨some 16,none,.new 41 [(.bool false),(.slice none 0 0),(.slice none 0 0)]⟩,⟨none,none,.store 3 (.tmp 16) (.tmp 117)⟩,⟨some 17,none,.mv (.tmp 118)⟩]) (.seq (.reg [⟨some 119,none,.faddr 2 (.tmp 7)⟩,⟨some 120,none,.load 1 false (.tmp 119)⟩,⟨some 121,none,.faddr 1 (.tmp 11)⟩,⟨some 122,none,.load 1 false (.tmp 121)⟩,⟨some 123,none,.callf (.func 18) [(.tmp 120),(.tmp 122)]⟩,⟨some 124,none,.load 3 true (.tmp 16)⟩,⟨some 125,none,.callf (.func 17) [(.tmp 123),(.tmp 124)]⟩,⟨some 126,none,.bin .eql (.tmp 125) (.const (.int .i64 (0)))⟩,⟨some 127,none,.mv (.tmp 126)⟩,⟨some 128,(some (127,true)),.callf (.func 12) []⟩,⟨some 129,none,.pick (.tmp 127) (.tmp 128) (.const (.bool false))⟩,⟨some 6,none,.mv (.tmp 129)⟩]) .ret))))))
abbrev c5_k2:CC:=(.reg [⟨some 86,none,.bin .add (.tmp 41) (.const (.int .i64 (1)))⟩,⟨some 41,none,.mv (.tmp 86)⟩])
abbrev c5_b1:CC:=(.seq (.reg [⟨some 75,none,.bin .lss (.tmp 74) (.tmp 73)⟩]) (.seq (.cond (.tmp 75) .skip (.exit 2)) (.seq (.block 3 (.seq (.reg [⟨some 76,none,.iaddr 1 none (.tmp 72) (.tmp 74)⟩,⟨some 77,none,.load 1 false (.tmp 76)⟩,⟨some 10,none,.mv (.tmp 77)⟩]) (.seq (.reg [⟨some 78,none,.mv (.tmp 10)⟩,⟨some 79,none,.bin .lss (.tmp 78) (.const (.int .i64 (-20)))⟩,⟨some 80,none,.mv (.tmp 79)⟩,⟨some 81,(some (80,false)),.mv (.tmp 10)⟩,⟨some 82,(some (80,false)),.bin .gtr (.tmp 81) (.const (.int .i64 (20)))⟩,⟨some 83,none,.pick (.tmp 80) (.const (.bool true)) (.tmp 82)⟩]) (.cond (.tmp 83) (.seq (.reg [⟨some 84,none,.callf (.func 12) []⟩,⟨some 6,none,.mv (.tmp 84)⟩]) .ret) .skip)))) (.reg [⟨some 85,none,.bin .add (.tmp 74) (.const (.int .i64 (1)))⟩,⟨some 74,none,.mv (.tmp 85)⟩]))))
abbrev c5_b2:CC:=(.seq (.reg [⟨some 42,none,.bin .lss (.tmp 41) (.tmp 40)⟩]) (.seq (.cond (.tmp 42) .skip (.exit 0)) (.seq (.block 1 (.seq (.reg [⟨some 43,none,.mv (.tmp 41)⟩,⟨some 8,none,.mv (.tmp 43)⟩]) (.seq (.seq (.reg [⟨some 44,none,.mv (.tmp 0)⟩,⟨some 45,none,.mv (.tmp 8)⟩,⟨some 46,none,.iaddr 1 none (.tmp 44) (.tmp 45)⟩,⟨some 47,none,.load 1 false (.tmp 46)⟩,⟨some 48,none,.len false (.tmp 47)⟩,⟨some 49,none,.mv (.tmp 2)⟩,⟨some 50,none,.len false (.tmp 49)⟩,⟨some 51,none,.bin .neq (.tmp 48) (.tmp 50)⟩]) (.cond (.tmp 51) (.seq (.reg [⟨some 52,none,.callf (.func 12) []⟩,⟨some 6,none,.mv (.tmp 52)⟩]) .ret) .skip)) (.seq (.reg [⟨some 53,none,.faddr 0 (.tmp 7)⟩,⟨some 54,none,.load 1 false (.tmp 53)⟩,⟨some 55,none,.mv (.tmp 0)⟩,⟨some 56,none,.mv (.tmp 8)⟩,⟨some 57,none,.iaddr 1 none (.tmp 55) (.tmp 56)⟩,⟨some 58,none,.load 1 false (.tmp 57)⟩,⟨some 59,none,.callf (.func 20) [(.tmp 58)]⟩,⟨some 60,none,.mkrow 23 1 [(.tmp 59)]⟩,⟨some 61,none,.append 23 1 24 (.tmp 54) (.tmp 60)⟩,⟨some 62,none,.faddr 0 (.tmp 7)⟩,⟨none,none,.store 1 (.tmp 62) (.tmp 61)⟩]) (.seq (.reg [⟨some 63,none,.mkrow 3 1 []⟩,⟨some 64,none,.mv (.tmp 0)⟩,⟨some 65,none,.mv (.tmp 8)⟩,⟨some 66,none,.iaddr 1 none (.tmp 64) (.tmp 65)⟩,⟨some 67,none,.load 1 false (.tmp 66)⟩,⟨some 68,none,.append 3 1 8 (.tmp 63) (.tmp 67)⟩,⟨some 69,none,.mv (.tmp 1)⟩,⟨some 70,none,.append 3 1 8 (.tmp 68) (.tmp 69)⟩,⟨some 71,none,.mv (.tmp 2)⟩,⟨some 72,none,.append 3 1 8 (.tmp 70) (.tmp 71)⟩,⟨some 73,none,.len false (.tmp 72)⟩,⟨some 74,none,.mv (.const (.int .i64 (0)))⟩]) (.block 2 (.loop c5_b1))))))) c5_k2)))
abbrev c5:CC:=(.seq (.reg [⟨some 6,none,.mv (.const (.bool false))⟩]) (.seq (.seq (.reg [⟨some 18,none,.mv (.tmp 0)⟩,⟨some 19,none,.len false (.tmp 18)⟩,⟨some 20,none,.bin .gtr (.tmp 19) (.const (.int .i64 (2)))⟩,⟨some 21,none,.mv (.tmp 20)⟩,⟨some 22,(some (21,false)),.mv (.tmp 1)⟩,⟨some 23,(some (21,false)),.len false (.tmp 22)⟩,⟨some 24,(some (21,false)),.mv (.tmp 0)⟩,⟨some 25,(some (21,false)),.len false (.tmp 24)⟩,⟨some 26,(some (21,false)),.bin .neq (.tmp 23) (.tmp 25)⟩,⟨some 27,none,.pick (.tmp 21) (.const (.bool true)) (.tmp 26)⟩,⟨some 28,none,.mv (.tmp 27)⟩,⟨some 29,(some (28,false)),.mv (.tmp 2)⟩,⟨some 30,(some (28,false)),.len false (.tmp 29)⟩,⟨some 31,(some (28,false)),.bin .gtr (.tmp 30) (.const (.int .i64 (6)))⟩,⟨some 32,none,.pick (.tmp 28) (.const (.bool true)) (.tmp 31)⟩]) (.cond (.tmp 32) (.seq (.reg [⟨some 33,none,.callf (.func 12) []⟩,⟨some 6,none,.mv (.tmp 33)⟩]) .ret) .skip)) (.seq (.reg [⟨some 34,none,.mv (.tmp 1)⟩,⟨some 35,none,.callf (.func 20) [(.tmp 34)]⟩,⟨some 36,none,.mv (.tmp 2)⟩,⟨some 37,none,.callf (.func 20) [(.tmp 36)]⟩,⟨some 38,none,.build [(.slice none 0 0),(.slice none 0 0),(.slice none 0 0)] [(1,(1,(.tmp 35))),(2,(1,(.tmp 37)))]⟩,⟨some 7,none,.new 25 [(.slice none 0 0),(.slice none 0 0),(.slice none 0 0)]⟩,⟨none,none,.store 3 (.tmp 7) (.tmp 38)⟩]) (.seq (.seq (.reg [⟨some 39,none,.mv (.tmp 0)⟩,⟨some 40,none,.len false (.tmp 39)⟩,⟨some 41,none,.mv (.const (.int .i64 (0)))⟩]) (.block 0 (.loop c5_b2))) c5_k1))))
theorem cc5:ccode Try.prog [] (Try.f5.body.getD .skip) = some c5:=by kernel_rfl
theorem body5:Try.f5.body = some (Try.f5.body.getD .skip):=rfl
theorem simplexLeast_C (a:IM) (b c:Option (List Int)) (ia:∀ s ∈ osl a,∀ n ∈ osl s,-9223372036854775808 <= n /\ n <= 9223372036854775807) (ib:∀ n ∈ osl b,-9223372036854775808 <= n /\ n <= 9223372036854775807) (ic:∀ n ∈ osl c,-9223372036854775808 <= n /\ n <= 9223372036854775807) (la:(osl a).length <= 9223372036854775807) (lb:(osl b).length <= 9223372036854775807) (lc:(osl c).length <= 9223372036854775807) (lr:∀ s ∈ osl a,(osl s).length <= 9223372036854775807) :
  PureC Try.prog 5 [aIM a,aIs b,aIs c] (.ret (aB true)):=by
 have hw:=awake12_C
 by_cases c1:(osl a).length <= 2
 case neg =>
  refine pureC_of (rs:=[(RV.tmp 6)]) Try.func5 (fun a w=>Try.call5 a w) body5 cc5 (by kernel_rfl) ?_
  rw [Try.ntmps5]
  simp only [frs,nA,nS]
  repeat (first | (with_reducible first | refine Way.imp ?_ | refine blk_o rfl ?_) | ((with_reducible refine WayR.imp (fun K hK=>?_));simp (disch:=first | omega | (simp only [dls];omega)) only [std,reduceIte,reduceCtorEq,iT,nA,nS,nM,iA,iS,iM,iN,fU];subst hK) | refine zcA (hw) rfl rfl rfl ?_)
  exact ⟨_,rfl,rfl⟩
 by_cases c2:(osl b).length = (osl a).length
 case neg =>
  refine pureC_of (rs:=[(RV.tmp 6)]) Try.func5 (fun a w=>Try.call5 a w) body5 cc5 (by kernel_rfl) ?_
  rw [Try.ntmps5]
  simp only [frs,nA,nS]
  repeat (first | (with_reducible first | refine Way.imp ?_ | refine blk_o rfl ?_) | ((with_reducible refine WayR.imp (fun K hK=>?_));simp (disch:=first | omega | (simp only [dls];omega)) only [std,reduceIte,reduceCtorEq,iT,nA,nS,nM,iA,iS,iM,iN,fU];subst hK) | refine zcA (hw) rfl rfl rfl ?_)
  exact ⟨_,rfl,rfl⟩
 by_cases c3:(osl c).length <= 6
 case neg =>
  refine pureC_of (rs:=[(RV.tmp 6)]) Try.func5 (fun a w=>Try.call5 a w) body5 cc5 (by kernel_rfl) ?_
  rw [Try.ntmps5]
  simp only [frs,nA,nS]
  repeat (first | (with_reducible first | refine Way.imp ?_ | refine blk_o rfl ?_) | ((with_reducible refine WayR.imp (fun K hK=>?_));simp (disch:=first | omega | (simp only [dls];omega)) only [std,reduceIte,reduceCtorEq,iT,nA,nS,nM,iA,iS,iM,iN,fU];subst hK) | refine zcA (hw) rfl rfl rfl ?_)
  exact ⟨_,rfl,rfl⟩
 have hib:=ints_O b (by omega) ib
 have hic:=ints_O c (by omega) ic
 refine pureC_of (rs:=[(RV.tmp 6)]) Try.func5 (fun a w=>Try.call5 a w) body5 cc5 (by kernel_rfl) ?_
 rw [Try.ntmps5]
 simp only [frs,nA,nS]
 repeat (first | (with_reducible first | refine Way.imp ?_ | refine blk_o rfl ?_) | ((with_reducible refine WayR.imp (fun K hK=>?_));simp (disch:=first | omega | (simp only [dls];omega)) only [std,reduceIte,reduceCtorEq,iT,nA,nS,nM,iA,iS,iM,iN,fU];subst hK) | refine zcA (hib) rfl rfl rfl ?_ | refine zcA (hic) rfl rfl rfl ?_)
 refine AWp.fgt ?_ (Fgt.phantom _ 23 1)
 refine AWp.fgt ?_ (Fgt.cellsOpen (b:=0) (els':=[[.own 1 0,.c (vr (rowV (rInts b))),.c (vr (rowV (rInts c)))]]) rfl (.cons (.cons (.inr ⟨rfl,1,_,rfl,rfl,rfl⟩) (.cons (.inl rfl) (.cons (.inl rfl) .nil))) .nil))
 simp only [List.cons_append,List.nil_append,List.set_cons_succ,List.set_cons_zero]
 refine awp_loop (fun (zz:Nat × (List VV) × Bool)=>⟨(aIM a :: aIs b :: aIs c :: .junk :: .junk :: .junk :: .junk :: .one (.ptr 0 0 0 0) :: .junk :: .junk :: .junk :: .junk :: .junk :: .junk :: .junk :: .junk :: .junk :: .junk :: .junk :: .junk :: .junk :: .junk :: .junk :: .junk :: .junk :: .junk :: .junk :: .junk :: .junk :: .junk :: .junk :: .junk :: .junk :: .junk :: .junk :: .junk :: .junk :: .junk :: .junk :: aIM a :: aI (osl a).length :: aI zz.1 :: .junk :: .junk :: .junk :: .junk :: .junk :: .junk :: .junk :: .junk :: .junk :: .junk :: .junk :: .junk :: .junk :: .junk :: .junk :: .junk :: .junk :: .junk :: .junk :: .junk :: .junk :: .junk :: .junk :: .junk :: .junk :: .junk :: .junk :: .junk :: .junk :: .junk :: .junk :: .junk :: .junk :: .junk :: .junk :: .junk :: .junk :: .junk :: .junk :: .junk :: .junk :: .junk :: .junk :: .junk :: .junk :: .junk :: .junk :: .junk :: .junk :: .junk :: .junk :: .junk :: .junk :: .junk :: .junk :: .junk :: .junk :: .junk :: .junk :: .junk :: .junk :: .junk :: .junk :: .junk :: .junk :: .junk :: .junk :: .junk :: .junk :: .junk :: .junk :: .junk :: .junk :: .junk :: .junk :: .junk :: .junk :: .junk :: .junk :: .junk :: .junk :: .junk :: .junk :: .junk :: .junk :: .junk :: .junk :: .junk :: []),[⟨0,25,3,[[.own 1 zz.1,.c (vr (rowV (rInts b))),.c (vr (rowV (rInts c)))]],true,true⟩,⟨zz.1,23,1,encB fM zz.2.1,true,zz.2.2⟩]⟩) (fun (zz:Nat × (List VV) × Bool)=>zz.1 <= (osl a).length /\ GoodTo a b c zz.1 /\ zz.2.1 = (rowsI a zz.1).map rowV /\ zz.2.2 = !zz.2.1.isEmpty) (fun (zz:Nat × (List VV) × Bool)=>(osl a).length - zz.1) (0,[],false) ?hI1 (Fgt.head (Nat.zero_le 2) (true :: true :: true :: false :: false :: false :: false :: true :: false :: false :: false :: false :: false :: false :: false :: false :: false :: false :: false :: false :: false :: false :: false :: false :: false :: false :: false :: false :: false :: false :: false :: false :: false :: false :: false :: false :: false :: false :: false :: true :: true :: true :: []) ?hT1 ?hH1) ?hB1
 case hT1=>first | (simp (disch:=omega) only [hds,liveT,cleanAV,cleanCell,clean1,cleanBlk_mk,reduceIte,iS,iA,iN,encB_nil];done) | rfl
 case hH1=>first | (simp (disch:=omega) only [hds,liveT,cleanAV,cleanCell,clean1,cleanBlk_mk,reduceIte,iS,iA,iN,encB_nil];done) | rfl
 ·dsimp only;exact ⟨Nat.zero_le _,fun j _ h=>absurd h (Nat.not_lt_zero _),rfl,rfl⟩
 rintro ⟨i,out,nn⟩ ⟨hi,hgd,ho,hnn⟩
 dsimp only at hi hgd ho hnn
 by_cases him:i = (osl a).length
 case neg =>
  have hlt:i < (osl a).length:=by omega
  by_cases hln:(osl (osl a)[i]).length = (osl c).length
  case neg =>
   have hlr:=lr _ (List.getElem_mem hlt)
   repeat (first | (with_reducible first | refine Way.imp ?_ | refine blk_o rfl ?_) | ((with_reducible refine WayR.imp (fun K hK=>?_));simp (disch:=first | omega | (simp only [dls];omega)) only [std,reduceIte,reduceCtorEq,iT,nA,nS,nM,iA,iS,iM,iN,fU,fIs];subst hK) | refine zcA (hw) rfl rfl rfl ?_)
   exact ⟨_,rfl,rfl⟩
  have hir:=ints_O (osl a)[i] (by omega) (ia _ (List.getElem_mem hlt))
  have hol:out.length = i:=by rw [ho,List.length_map,rowsI_len]
  have hsn:∀ v:VV,encB fM out ++ [[Cell.c (vr v)]] = encB fM (out ++ [v]):=fun v=>by rw [<- encB_append];rfl
  have he1:(encB fI (osl (osl a)[i]) ++ encB fI (osl b)).length = (osl (osl a)[i]).length + (osl b).length:=by rw [List.length_append,encB_length,encB_length]
  have he2:encB fI (osl (osl a)[i]) ++ (encB fI (osl b) ++ encB fI (osl c)) = encB fI (osl (osl a)[i] ++ osl b ++ osl c):=by rw [encB_append,encB_append,List.append_assoc]
  repeat (first | (with_reducible first | refine Way.imp ?_ | refine blk_o rfl ?_) | ((with_reducible refine WayR.imp (fun K hK=>?_));simp (disch:=first | omega | (simp only [dls];omega)) only [std,reduceIte,reduceCtorEq,iT,nA,nS,nM,iA,iS,iM,iN,fU,fIs,fM,hsn,he1,he2];subst hK) | refine zcA (hir) rfl rfl rfl ?_)
  generalize hW:osl (osl a)[i] ++ (osl b ++ osl c) = W at *
  have hWb:∀ n ∈ W,-9223372036854775808 <= n /\ n <= 9223372036854775807:=fun n hn=>by
   rw [<- hW,List.mem_append,List.mem_append] at hn
   rcases hn with hn | hn | hn
   ·exact ia _ (List.getElem_mem hlt) n hn
   ·exact ib n hn
   ·exact ic n hn
  have hWl:W.length <= 1000:=by rw [<- hW,List.length_append,List.length_append];omega
  refine awp_loop (fun (zz:Nat)=>⟨(aIM a :: aIs b :: aIs c :: .junk :: .junk :: .junk :: .junk :: .one (.ptr 0 0 0 0) :: .junk :: .junk :: .junk :: .junk :: .junk :: .junk :: .junk :: .junk :: .junk :: .junk :: .junk :: .junk :: .junk :: .junk :: .junk :: .junk :: .junk :: .junk :: .junk :: .junk :: .junk :: .junk :: .junk :: .junk :: .junk :: .junk :: .junk :: .junk :: .junk :: .junk :: .junk :: aIM a :: aI (osl a).length :: aI i :: .junk :: .junk :: .junk :: .junk :: .junk :: .junk :: .junk :: .junk :: .junk :: .junk :: .junk :: .junk :: .junk :: .junk :: .junk :: .junk :: .junk :: .junk :: .junk :: .junk :: .junk :: .junk :: .junk :: .junk :: .junk :: .junk :: .junk :: .junk :: .junk :: .junk :: .one (.own 3 3) :: aI W.length :: aI zz :: .junk :: .junk :: .junk :: .junk :: .junk :: .junk :: .junk :: .junk :: .junk :: .junk :: .junk :: .junk :: .junk :: .junk :: .junk :: .junk :: .junk :: .junk :: .junk :: .junk :: .junk :: .junk :: .junk :: .junk :: .junk :: .junk :: .junk :: .junk :: .junk :: .junk :: .junk :: .junk :: .junk :: .junk :: .junk :: .junk :: .junk :: .junk :: .junk :: .junk :: .junk :: .junk :: .junk :: .junk :: .junk :: .junk :: .junk :: .junk :: .junk :: .junk :: .junk :: .junk :: .junk :: .junk :: .junk :: []),[⟨0,25,3,[[.own 1 (i + 1),.c (vr (rowV (rInts b))),.c (vr (rowV (rInts c)))]],true,true⟩,⟨i + 1,23,1,encB fM (out ++ [rowV (rInts (osl a)[i])]),true,true⟩,⟨0,23,1,[[.c (vr (rowV (rInts (osl a)[i])))]],true,true⟩,⟨3,3,1,encB fI W,true,true⟩]⟩) (fun (zz:Nat)=>zz <= W.length /\ ∀ k (h:k < W.length),k < zz -> -20 <= W[k] /\ W[k] <= 20) (fun (zz:Nat)=>W.length - zz) (0) ?hI2 (Fgt.head (Nat.zero_le 4) (true :: true :: true :: false :: false :: false :: false :: true :: false :: false :: false :: false :: false :: false :: false :: false :: false :: false :: false :: false :: false :: false :: false :: false :: false :: false :: false :: false :: false :: false :: false :: false :: false :: false :: false :: false :: false :: false :: false :: true :: true :: true :: false :: false :: false :: false :: false :: false :: false :: false :: false :: false :: false :: false :: false :: false :: false :: false :: false :: false :: false :: false :: false :: false :: false :: false :: false :: false :: false :: false :: false :: false :: true :: true :: true :: []) ?hT2 ?hH2) ?hB2
  case hT2=>first | (simp (disch:=omega) only [hds,liveT,cleanAV,cleanCell,clean1,cleanBlk_mk,reduceIte,iS,iA,iN,List.isEmpty_cons,Bool.or_true,Bool.not_false,encB_length];done) | rfl
  case hH2=>first | (simp (disch:=omega) only [hds,liveT,cleanAV,cleanCell,clean1,cleanBlk_mk,reduceIte,iS,iA,iN,List.isEmpty_cons,Bool.or_true,Bool.not_false,encB_length];done) | rfl
  ·exact ⟨Nat.zero_le _,fun k _ h=>absurd h (Nat.not_lt_zero _)⟩
  rintro j ⟨hj,hjs⟩
  by_cases hje:j = W.length
  ·repeat (first | (with_reducible first | refine Way.imp ?_ | refine blk_o rfl ?_) | ((with_reducible refine WayR.imp (fun K hK=>?_));simp (disch:=first | omega | (simp only [dls];omega)) only [std,reduceIte,reduceCtorEq,iT,nA,nS,nM,iA,iS,iM,iN,fU];subst hK))
   refine ⟨(i + 1,out ++ [rowV (rInts (osl a)[i])],true),?hI3,?hM3,Fgt.head (Nat.zero_le 2) (true :: true :: true :: false :: false :: false :: false :: true :: false :: false :: false :: false :: false :: false :: false :: false :: false :: false :: false :: false :: false :: false :: false :: false :: false :: false :: false :: false :: false :: false :: false :: false :: false :: false :: false :: false :: false :: false :: false :: true :: true :: true :: []) ?hT3 ?hH3⟩
   case hT3=>first | (simp (disch:=omega) only [hds,liveT,cleanAV,cleanCell,clean1,cleanBlk_mk,reduceIte,iS,iA,iN];done) | rfl
   case hH3=>first | (simp (disch:=omega) only [hds,liveT,cleanAV,cleanCell,clean1,cleanBlk_mk,reduceIte,iS,iA,iN];done) | rfl
   ·dsimp only
    refine ⟨hlt,fun j' h' hj'=>?_,by rw [rowsI_succ,List.map_append,<- ho,mIs_in hlt];rfl,by cases out <;> rfl⟩
    by_cases e:j' = i
    ·subst e
     refine ⟨hln,fun n hn=>?_⟩
     rw [List.append_assoc,hW] at hn
     obtain ⟨k,hk,rfl⟩:=List.mem_iff_getElem.1 hn
     exact hjs k hk (by omega)
    ·exact hgd j' h' (by omega)
   ·dsimp only;omega
  ·have hjl:j < W.length:=by omega
   have hb:=hWb W[j] (List.getElem_mem hjl)
   by_cases q1:W[j] < -20
   ·repeat (first | (with_reducible first | refine Way.imp ?_ | refine blk_o rfl ?_) | ((with_reducible refine WayR.imp (fun K hK=>?_));simp (disch:=first | omega | (simp only [dls];omega)) only [std,reduceIte,reduceCtorEq,iT,nA,nS,nM,iA,iS,iM,iN,fU,fI];subst hK) | refine zcA (hw) rfl rfl rfl ?_)
    exact ⟨_,rfl,rfl⟩
   ·by_cases q2:20 < W[j]
    ·repeat (first | (with_reducible first | refine Way.imp ?_ | refine blk_o rfl ?_) | ((with_reducible refine WayR.imp (fun K hK=>?_));simp (disch:=first | omega | (simp only [dls];omega)) only [std,reduceIte,reduceCtorEq,iT,nA,nS,nM,iA,iS,iM,iN,fU,fI];subst hK) | refine zcA (hw) rfl rfl rfl ?_)
     exact ⟨_,rfl,rfl⟩
    ·repeat (first | (with_reducible first | refine Way.imp ?_ | refine blk_o rfl ?_) | ((with_reducible refine WayR.imp (fun K hK=>?_));simp (disch:=first | omega | (simp only [dls];omega)) only [std,reduceIte,reduceCtorEq,iT,nA,nS,nM,iA,iS,iM,iN,fU,fI];subst hK))
     refine ⟨(j + 1),?hI4,?hM4,Fgt.head (Nat.zero_le 4) (true :: true :: true :: false :: false :: false :: false :: true :: false :: false :: false :: false :: false :: false :: false :: false :: false :: false :: false :: false :: false :: false :: false :: false :: false :: false :: false :: false :: false :: false :: false :: false :: false :: false :: false :: false :: false :: false :: false :: true :: true :: true :: false :: false :: false :: false :: false :: false :: false :: false :: false :: false :: false :: false :: false :: false :: false :: false :: false :: false :: false :: false :: false :: false :: false :: false :: false :: false :: false :: false :: false :: false :: true :: true :: true :: []) ?hT4 ?hH4⟩
     case hT4=>first | (simp (disch:=omega) only [hds,liveT,cleanAV,cleanCell,clean1,cleanBlk_mk,reduceIte,iS,iA,iN];done) | rfl
     case hH4=>first | (simp (disch:=omega) only [hds,liveT,cleanAV,cleanCell,clean1,cleanBlk_mk,reduceIte,iS,iA,iN];done) | rfl
     ·refine ⟨hjl,fun k hk hkj=>?_⟩
      by_cases e:k = j
      ·subst e;omega
      ·exact hjs k hk (by omega)
     ·show W.length - (j + 1) < W.length - j;omega
 have hrow:∀ j (h:j < (osl a).length),(osl (osl a)[j]).length = (osl c).length /\ ∀ n ∈ osl (osl a)[j] ++ osl b ++ osl c,-20 <= n /\ n <= 20:=fun j h=>hgd j h (by omega)
 have hok:LeastOk a b c:=by
  refine ⟨c1,c2,c3,fun j h=>(hrow j h).1,fun j k=>?_,fun k=>?_,fun h0 k=>?_⟩
  ·by_cases h:j < (osl a).length
   ·by_cases hk:k < (osl (osl a)[j]).length
    ·rw [gA_in h hk]
     exact (hrow j h).2 _ (List.mem_append_left _ (List.mem_append_left _ (List.getElem_mem hk)))
    ·have:gA a j k = 0:=by
      unfold gA iAt
      rw [mIs_in h,List.getD_eq_getElem?_getD,List.getElem?_eq_none (by omega)];rfl
     rw [this];decide
   ·rw [gA_out h];decide
  ·by_cases hk:k < (osl b).length
   ·rw [iAt_in hk]
    exact (hrow 0 (by omega)).2 _ (List.mem_append_left _ (List.mem_append_right _ (List.getElem_mem hk)))
   ·have:iAt b k = 0:=by
     unfold iAt
     rw [List.getD_eq_getElem?_getD,List.getElem?_eq_none (by omega)];rfl
    rw [this];decide
  ·by_cases hk:k < (osl c).length
   ·rw [iAt_in hk]
    exact (hrow 0 (by omega)).2 _ (List.mem_append_right _ (List.getElem_mem hk))
   ·have:iAt c k = 0:=by
     unfold iAt
     rw [List.getD_eq_getElem?_getD,List.getElem?_eq_none (by omega)];rfl
    rw [this];decide
 refine AWp.fgt ?_ (Fgt.cells (b:=0) (els':=[[.c (encSl 1 fM (rowO out)),.c (vr (rowV (rInts b))),.c (vr (rowV (rInts c)))]]) [1] rfl rfl (.cons (.cons ((clo_ownO (c:=1) rfl (by decide) hnn (by simp)).2 0 _ _ rfl rfl) (.cons (.inl rfl) (.cons (.inl rfl) .nil))) .nil))
 rw [freeze_from]
 simp only [List.set_cons_succ,List.set_cons_zero,fzl,freezeFrom_keep,nB,nA,Bool.false_eq_true,if_true,if_false,reduceIte]
 refine AWp.fgt ?hA5 (Fgt.head (t':=(aIM a :: aIs b :: aIs c :: .junk :: .junk :: .junk :: .junk :: .one (.ptr 0 0 0 0) :: .junk :: .junk :: .junk :: .junk :: .junk :: .junk :: .junk :: .junk :: .junk :: .junk :: .junk :: .junk :: .junk :: .junk :: .junk :: .junk :: .junk :: .junk :: .junk :: .junk :: .junk :: .junk :: .junk :: .junk :: .junk :: .junk :: .junk :: .junk :: .junk :: .junk :: .junk :: aIM a :: aI (osl a).length :: aI i :: .junk :: .junk :: .junk :: .junk :: .junk :: .junk :: .junk :: .junk :: .junk :: .junk :: .junk :: .junk :: .junk :: .junk :: .junk :: .junk :: .junk :: .junk :: .junk :: .junk :: .junk :: .junk :: .junk :: .junk :: .junk :: .junk :: .junk :: .junk :: .junk :: .junk :: .junk :: .junk :: .junk :: .junk :: .junk :: .junk :: .junk :: .junk :: .junk :: .junk :: .junk :: .junk :: .junk :: .junk :: .junk :: .junk :: .junk :: .junk :: .junk :: .junk :: .junk :: .junk :: .junk :: .junk :: .junk :: .junk :: .junk :: .junk :: .junk :: .junk :: .junk :: .junk :: .junk :: .junk :: .junk :: .junk :: .junk :: .junk :: .junk :: .junk :: .junk :: .junk :: .junk :: .junk :: .junk :: .junk :: .junk :: .junk :: .junk :: .junk :: .junk :: .junk :: .junk :: .junk :: .junk :: .junk :: .junk :: .junk :: [])) (h':=[⟨0,25,3,[[.c (encSl 1 fM (rowO out)),.c (vr (rowV (rInts b))),.c (vr (rowV (rInts c)))]],true,true⟩]) (show _ <= 1 from Nat.le_of_ble_eq_true rfl) (true :: true :: true :: false :: false :: false :: false :: true :: false :: false :: false :: false :: false :: false :: false :: false :: false :: false :: false :: false :: false :: false :: false :: false :: false :: false :: false :: false :: false :: false :: false :: false :: false :: false :: false :: false :: false :: false :: false :: true :: true :: true :: []) ?hT5 ?hH5)
 case hT5=>first | (simp (disch:=omega) only [hds,liveT,cleanAV,cleanCell,clean1,cleanBlk_mk,reduceIte,iS,iA,iN];done) | rfl
 case hH5=>first | (simp (disch:=omega) only [hds,liveT,cleanAV,cleanCell,clean1,cleanBlk_mk,reduceIte,iS,iA,iN];done) | rfl
 have hout:rowO out = mL (rowsI a (osl a).length):=by rw [ho,him];rfl
 rw [hout]
 obtain ⟨r,T,ht⟩:=told (ipB a b c) 3 (ip_pfits hok ia ib ic)
 have hT:=steps_few (p:=ipB a b c) (by rw [ip_Al];omega) (by rw [ip_Cl];omega) ht.steps
 have cr:=ht.call 65536 (by decide) (by decide)
 rw [if_pos (by omega)] at cr
 obtain ⟨hf2,hf1⟩:=least_told hok ht.prov ht.crn
 have hbest:=best_C a b c hok
 have hbn:BndQ ((bsI a b c (osl c).length).n,(bsI a b c (osl c).length).d):=best_bnd hok.small _ (Nat.le_refl _)
 have k4:∀ m,m <= 4 -> 4 ^ m * (3 + 1) <= 1024:=by decide
 have hk4:=k4 (osl (ipB a b c).A).length (by rw [ip_Al];omega)
 have hXl:r.v = 1 -> r.X.length = (osl c).length:=fun h=>by rw [(prov_feas ht.prov (by omega)).1];exact ip_n
 have fX:=ht.fx
 have hpv:=prov_v ht.prov
 have vC:FitsV (rowV (rInts c)) 8 3:=fits_rowV (by rw [rInts_len];omega) (fits_ints ic)
 have vX:r.v = 1 -> FitsV (rowV r.X) 8 1024:=fun h=>fits_rowV (by have:=hXl h;omega) (fun q hq=>(fX q hq).mono hk4)
 have hd0:=fun h=>dot_W (rowV (rInts c)) (rowV r.X) 8 3 1024 vC (vX h) (by decide) (by decide) (by decide) (by decide) (by decide) (by decide) (by decide)
 have hm0:=fun h=>fits_dotW vC (vX h) (by decide) (by decide)
 have he0:r.v = 1 -> dotV (rowV (rInts c)) (rowV r.X) = cxP (pfOf (ipB a b c)) r.X:=fun h=>cx_dot3 (p:=ipB a b c) (x:=r.X) (by rw [ip_Cl];exact hXl h)
 clear ht
 unfold srV srC at cr
 generalize hrv:r.v = rv at *
 generalize encSl 1 fI (rowO (intsN r.bs)) = cb at *
 generalize bsI a b c (osl c).length = s at *
 obtain ⟨sn,sd,sf⟩:=s
 dsimp only at hbn hf1 hf2 hbest
 obtain ⟨n1,n2,n3⟩:=hbn
 rcases hpv with hv | hv | hv
 ·have hsf:sf = true:=hf2.2 (by omega)
  have d1:=hd0 hv
  have m1:=hm0 hv
  have hof:=rof_C sn sd (by omega) (by omega) (by omega) (by omega) (by omega)
  have e1:(sn:Rat) / (sd:Rat) = cxP (pfOf (ipB a b c)) r.X:=hf1 hv
  rw [he0 hv] at d1 m1
  rw [e1] at hof
  generalize cxP (pfOf (ipB a b c)) r.X = z at d1 m1 hof
  have hcm:=rcompare_C (rawQ z) (rawQ z) (fits_rawQ (m1.mono (by decide))) (fits_rawQ (m1.mono (by decide)))
  have hc0:cmpQ (rawQ z).val (rawQ z).val = 0:=by
   have h1:¬ 0 < cmpQ (rawQ z).val (rawQ z).val:=fun h=>absurd ((cmpQ_pos _ _).1 h) (Rat.not_lt.2 Rat.le_refl)
   have h2:¬ cmpQ (rawQ z).val (rawQ z).val < 0:=fun h=>absurd ((cmpQ_neg _ _).1 h) (Rat.not_lt.2 Rat.le_refl)
   omega
  rw [hc0] at hcm
  subst hv
  subst hsf
  repeat (first | (with_reducible first | refine Way.imp ?_ | refine blk_o rfl ?_) | ((with_reducible refine WayR.imp (fun K hK=>?_));simp (disch:=first | omega | (simp only [dls];omega)) only [std,reduceIte,reduceCtorEq,iT,nA,nS,nM,iA,iS,iM,iN,fU,fR];subst hK) | refine zcA (cr) rfl rfl rfl ?_ | refine zcA (hbest) rfl rfl rfl ?_ | refine zcA (hof) rfl rfl rfl ?_ | refine zcA (d1) rfl rfl rfl ?_ | refine zcA (hcm) rfl rfl rfl ?_ | (apply call_any_g (hw) rfl;(case hg=>simp (disch:=first | omega | (simp only [dls];omega)) only [std,reduceIte,reduceCtorEq,iT,nA,nS,nM,iA,iS,iM,iN,fU,fR]);(case hcl=>(simp only [evs,St.ev,constAV,evl];(repeat (first | exact closeAVs_nil | (apply closeAVs_cons;(first | (refine close_own3 rfl (by decide)) | (refine close_ownO rfl (by decide) ?_;assumption) | rfl))));done));(case hu=>rfl)))
  exact ⟨_,rfl,rfl⟩
 ·have hsf:sf = false:=by
   cases sf with
   | false=>rfl
   | true=>exact absurd hv (hf2.1 rfl)
  subst hv
  subst hsf
  repeat (first | (with_reducible first | refine Way.imp ?_ | refine blk_o rfl ?_) | ((with_reducible refine WayR.imp (fun K hK=>?_));simp (disch:=first | omega | (simp only [dls];omega)) only [std,reduceIte,reduceCtorEq,iT,nA,nS,nM,iA,iS,iM,iN,fU,fR];subst hK) | refine zcA (cr) rfl rfl rfl ?_ | refine zcA (hbest) rfl rfl rfl ?_ | refine zcA (hw) rfl rfl rfl ?_)
  exact ⟨_,rfl,rfl⟩
 ·have hsf:sf = true:=hf2.2 (by omega)
  subst hv
  subst hsf
  repeat (first | (with_reducible first | refine Way.imp ?_ | refine blk_o rfl ?_) | ((with_reducible refine WayR.imp (fun K hK=>?_));simp (disch:=first | omega | (simp only [dls];omega)) only [std,reduceIte,reduceCtorEq,iT,nA,nS,nM,iA,iS,iM,iN,fU,fR];subst hK) | refine zcA (cr) rfl rfl rfl ?_ | refine zcA (hbest) rfl rfl rfl ?_ | refine zcA (hw) rfl rfl rfl ?_)
  exact ⟨_,rfl,rfl⟩
end Go.Proofs.Ytncgbjhojbnecaa
