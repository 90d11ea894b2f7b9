/- Plain numbers: rows of 32 bits. -/
set_option linter.unusedSimpArgs false
set_option linter.unusedVariables false
set_option linter.unnecessarySimpa false
open Option renaming some -> PA, none -> QA
open List renaming cons_append -> rA, length_cons -> oA, replicate -> jA
open Nat renaming lt_of_lt_of_le -> HA, le_refl -> EA
namespace Go.Off
def UA {α:Type} (a:Option (List α)):List α:=a.getD []
theorem osl_some {α:Type} (l:List α):UA (PA l) = l:=rfl
theorem osl_none {α:Type}:UA (QA:Option (List α)) = []:=rfl
def val:List UInt32 -> Nat
 | []=>0
 | d :: l=>d.toNat + 4294967296 * val l
def DB (n:Nat):List UInt32:=if n = 0 then [] else UInt32.ofNat n :: DB (n / 4294967296)
theorem zC:DB 0 = []:=by rw [DB];rfl
theorem UE {n:Nat} (h:n ≠ 0):DB n = UInt32.ofNat n :: DB (n / 4294967296):=by rw [DB,if_neg h]
theorem FC (n:Nat):val (DB n) = n:=by
 induction n using Nat.strongRecOn with
 | ind n ih =>
  by_cases h:n = 0
  ·subst h;rw [zC];rfl
  ·rw [UE h,val,ih _ (by omega)]
   simp only [UInt32.toNat_ofNat']
   omega
theorem iP (l m:List UInt32):val (l ++ m) = val l + 4294967296 ^ l.length * val m:=by
 induction l with
 | nil=>simp [val]
 | cons d l ih =>
  simp only [rA,val,ih,oA,Nat.pow_succ]
  rw [Nat.mul_add,Nat.add_assoc,Nat.mul_comm (4294967296 ^ l.length) 4294967296,Nat.mul_assoc]
theorem IE (l:List UInt32):val l < 4294967296 ^ l.length:=by
 induction l with
 | nil=>simp [val]
 | cons d l ih =>
  have hd:=d.toNat_lt
  simp only [val,oA,Nat.pow_succ]
  omega
theorem cL (n:Nat):val (jA n 0) = 0:=by
 induction n with
 | zero=>rfl
 | succ n ih=>simp [List.replicate_succ,val,ih]
theorem tI (l:List UInt32) (k:Nat) (hk:k <= l.length):val l = val (l.take k) + 4294967296 ^ k * val (l.drop k):=by
 have:=iP (l.take k) (l.drop k)
 rw [List.take_append_drop,List.length_take,Nat.min_eq_left hk] at this
 exact this
theorem bL (l:List UInt32) (k:Nat) (hk:k < l.length):val (l.take (k + 1)) = val (l.take k) + 4294967296 ^ k * l[k].toNat:=by
 rw [List.take_succ_eq_append_getElem hk,iP]
 simp [val,Nat.min_eq_left (Nat.le_of_lt hk)]
theorem ZL (l:List UInt32) (k:Nat) (hk:k < l.length):val (l.drop k) = l[k].toNat + 4294967296 * val (l.drop (k + 1)):=by
 rw [List.drop_eq_getElem_cons hk,val]
theorem fC {n k:Nat} (h:n < 4294967296 ^ k):(DB n).length <= k:=by
 induction k generalizing n with
 | zero =>
  have:n = 0:=by simpa using h
  subst this;simp [zC]
 | succ k ih =>
  by_cases hn:n = 0
  ·subst hn;simp [zC]
  ·rw [UE hn,oA]
   have:n / 4294967296 < 4294967296 ^ k:=by
    rw [Nat.pow_succ] at h
    exact Nat.div_lt_of_lt_mul (by rw [Nat.mul_comm];exact h)
   have:=ih this
   omega
def trimmed (l:List UInt32):Prop:=∀ h:l ≠ [],l.getLast h ≠ 0
theorem digits_val {l:List UInt32} (h:trimmed l):DB (val l) = l:=by
 induction l with
 | nil=>exact zC
 | cons d l ih =>
  have hl:trimmed l:=fun hne=>by
   have:=h (by simp)
   rwa [List.getLast_cons hne] at this
  have hpos:val (d :: l) ≠ 0:=by
   cases l with
   | nil =>
    have h1:=h (by simp)
    simp only [List.getLast_singleton] at h1
    simp only [val]
    intro h2
    apply h1
    apply UInt32.toNat_inj.1
    simp;omega
   | cons x l =>
    intro h2
    simp only [val] at h2
    have e:=ih hl
    have:val (x :: l) = 0:=by simp only [val];omega
    rw [this,zC] at e
    cases e
  rw [UE hpos]
  have hd:=d.toNat_lt
  have h1:UInt32.ofNat (val (d :: l)) = d:=by
   apply UInt32.toNat_inj.1
   simp only [val,UInt32.toNat_ofNat']
   omega
  have h2:val (d :: l) / 4294967296 = val l:=by simp only [val];omega
  rw [h1,h2,ih hl]
theorem vK (n:Nat):trimmed (DB n):=by
 induction n using Nat.strongRecOn with
 | ind n ih =>
  by_cases h:n = 0
  ·subst h;rw [zC];intro h;exact absurd rfl h
  ·rw [UE h]
   intro hne
   by_cases h2:n / 4294967296 = 0
   ·have e:DB (n / 4294967296) = []:=by rw [h2,zC]
    simp only [e,List.getLast_singleton]
    intro h3
    have:=congrArg UInt32.toNat h3
    simp only [UInt32.toNat_ofNat'] at this
    have:n < 4294967296:=by omega
    simp at *
    omega
   ·have hne2:DB (n / 4294967296) ≠ []:=by rw [UE h2];simp
    rw [List.getLast_cons hne2]
    exact ih _ (by omega) hne2
theorem VE {n:Nat} (h:n ≠ 0):0 < (DB n).length:=by rw [UE h];simp
theorem cG {n:Nat}:DB n = [] ↔ n = 0:=by
 constructor
 ·intro h
  refine Decidable.byContradiction fun h2=>?_
  rw [UE h2] at h
  cases h
 ·rintro rfl
  exact zC
theorem digits_inj {a b:Nat} (h:DB a = DB b):a = b:=by rw [<- FC a,h,FC]
theorem digits_ge {n k:Nat} (h:k < (DB n).length):4294967296 ^ k <= n:=by
 refine Decidable.byContradiction fun h2=>?_
 have:=fC (n:=n) (k:=k) (by omega)
 omega
def KC (l:List UInt32) (k:Nat):Nat:=if h:k < l.length then l[k].toNat else 0
theorem dG (l:List UInt32) (k:Nat):KC l k < 4294967296:=by
 unfold KC;split
 ·exact UInt32.toNat_lt _
 ·decide
def VN (l:List UInt32) (k:Nat):Nat:=val (l.take k)
theorem nK (l:List UInt32):VN l 0 = 0:=by simp [VN,val]
theorem BE (l:List UInt32) (k:Nat):VN l (k + 1) = VN l k + 4294967296 ^ k * KC l k:=by
 unfold VN KC
 split
 ·rename_i h;rw [bL l k h]
 ·rename_i h;rw [List.take_of_length_le (by omega),List.take_of_length_le (by omega)];simp
theorem eH (l:List UInt32) {k:Nat} (h:l.length <= k):VN l k = val l:=by unfold VN;rw [List.take_of_length_le h]
theorem low_lt (l:List UInt32) (k:Nat):VN l k < 4294967296 ^ k:=by
 have:=IE (l.take k)
 have h2:(l.take k).length <= k:=by simp;omega
 exact HA this (Nat.pow_le_pow_right (by decide) h2)
theorem low_set (l:List UInt32) (k:Nat) (hk:k < l.length) (x:UInt32):VN (l.set k x) (k + 1) = VN l k + 4294967296 ^ k * x.toNat:=by
 have h1:KC (l.set k x) k = x.toNat:=by simp [KC,hk]
 have h2:VN (l.set k x) k = VN l k:=by unfold VN;rw [List.take_set_of_le (EA _)]
 rw [BE,h1,h2]
end Go.Off
