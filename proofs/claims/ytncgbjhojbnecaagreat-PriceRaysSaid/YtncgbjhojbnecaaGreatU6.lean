/- Plain fractions: what is stored, and what number it is. -/
import Derived.Test.YtncgbjhojbnecaaGreatU4
set_option linter.unusedSimpArgs false
set_option linter.unusedVariables false
set_option linter.unnecessarySimpa false
open Option renaming some -> PA, none -> QA, map_eq_some_iff -> AA
open List renaming set_cons_succ -> lA, replicate -> jA, getD_eq_getElem?_getD -> bA, length_map -> eA, getElem?_eq_getElem -> aA, length_cons -> oA, length_nil -> pA, length_append -> sA, mem_range -> zA, cons_append -> rA, mem_map -> yA, getElem_mem -> gA, length_replicate -> tA
open Nat renaming zero_le -> fN, lt_of_lt_of_le -> HA, le_refl -> EA
open Bool renaming false -> TA, true -> SA, and_eq_true -> JA
namespace Go.Off
abbrev iG:=Option (List UInt32)
abbrev iG.ds (a:iG):List UInt32:=UA a
def iG.val (a:iG):Nat:=Off.val a.ds
structure RI where
 minus:Bool
 size:iG
structure RR where
 minus:Bool
 size:iG
 den:iG
def RI.val (a:RI):Int:=if a.minus then -(a.size.val:Int) else a.size.val
def RR.top (a:RR):Int:=if a.minus then -(a.size.val:Int) else a.size.val
def RR.bot (a:RR):Nat:=if a.den.val = 0 then 1 else a.den.val
def RR.val (a:RR):Rat:=mkRat a.top a.bot
def iC (n:Nat):iG:=PA (DB n)
def MC (i:Int):RI:=⟨decide (i < 0),iC i.natAbs⟩
def eB (q:Rat):RR:=⟨decide (q.num < 0),iC q.num.natAbs,iC q.den⟩
@[simp] theorem rowN_val (n:Nat):(iC n).val = n:=by simp [iC,iG.val,UA,FC]
theorem rowN_ds (n:Nat):(iC n).ds = DB n:=rfl
@[simp] theorem rawZ_val (i:Int):(MC i).val = i:=by
 unfold RI.val MC
 simp only [rowN_val,decide_eq_true_eq]
 split <;> omega
theorem RR.bot_ne (a:RR):a.bot ≠ 0:=by unfold RR.bot;split <;> omega
@[simp] theorem rawQ_top (q:Rat):(eB q).top = q.num:=by
 unfold RR.top eB
 simp only [rowN_val,decide_eq_true_eq]
 split <;> omega
@[simp] theorem rawQ_bot (q:Rat):(eB q).bot = q.den:=by
 unfold RR.bot eB
 have:=q.den_nz
 simp [this]
@[simp] theorem rawQ_val (q:Rat):(eB q).val = q:=by
 unfold RR.val;rw [rawQ_top,rawQ_bot,Rat.mkRat_self]
theorem make_num (n:Int) (d:Nat) (hd:d ≠ 0):(mkRat n d).num.natAbs = n.natAbs / n.natAbs.gcd d:=by
 rw [Rat.num_mkRat,if_neg hd,Nat.gcd_comm d,Int.natAbs_ediv_of_dvd (by
  rw [Int.ofNat_dvd_left];exact Nat.gcd_dvd_left _ _)]
 simp
theorem make_den (n:Int) (d:Nat) (hd:d ≠ 0):(mkRat n d).den = d / n.natAbs.gcd d:=by
 rw [Rat.den_mkRat,if_neg hd,Nat.gcd_comm d]
end Go.Off
namespace Go.Off
abbrev W:Nat:=4294967296
theorem MO (l:List UInt32) (k:Nat) (hk:k < l.length) (x:UInt32):val (l.set k x) + W ^ k * KC l k = val l + W ^ k * x.toNat:=by
 induction l generalizing k with
 | nil=>simp at hk
 | cons d l ih =>
  cases k with
  | zero=>simp [val,KC];omega
  | succ k =>
   have hk':k < l.length:=by simpa using hk
   have:=ih k hk'
   have hd:KC (d :: l) (k + 1) = KC l k:=by simp [KC]
   simp only [lA,val,hd,W,Nat.pow_succ] at this ⊢
   have e1:(4294967296 ^ k * 4294967296) * KC l k = 4294967296 * (4294967296 ^ k * KC l k):=by rw [Nat.mul_comm (4294967296 ^ k),Nat.mul_assoc]
   have e2:(4294967296 ^ k * 4294967296) * x.toNat = 4294967296 * (4294967296 ^ k * x.toNat):=by rw [Nat.mul_comm (4294967296 ^ k),Nat.mul_assoc]
   rw [e1,e2]
   omega
theorem NH (l:List UInt32) (k j:Nat) (x:UInt32) (h:k ≠ j):KC (l.set k x) j = KC l j:=by
 unfold KC
 by_cases hj:j < l.length
 ·simp [hj,h]
 ·simp [hj]
theorem dgt_set_eq (l:List UInt32) (k:Nat) (hk:k < l.length) (x:UInt32):KC (l.set k x) k = x.toNat:=by simp [KC,hk]
theorem xI (n k:Nat):KC (jA n 0) k = 0:=by unfold KC;split <;> simp
theorem iE (l:List UInt32) (k:Nat) (hk:k < l.length):KC l k = l[k].toNat:=by simp [KC,hk]
theorem add_step {A B O c k:Nat} (x y:Nat) (h:O + W ^ k * c = A + B) :
  (O + W ^ k * ((c + (x + y)) % W)) + W ^ (k + 1) * ((c + (x + y)) / W) = (A + W ^ k * x) + (B + W ^ k * y):=by
 have e:W ^ (k + 1) * ((c + (x + y)) / W) = W ^ k * (W * ((c + (x + y)) / W)):=by rw [Nat.pow_succ,Nat.mul_assoc]
 rw [e,Nat.add_assoc,<- Nat.mul_add,Nat.mod_add_div,Nat.mul_add,Nat.mul_add]
 omega
theorem add_end' {w A B O c m:Nat} (hw:2 <= w) (hm:0 < m) (hA:A < w ^ (m - 1)) (hB:B < w ^ (m - 1)) (h:O + w ^ m * c = A + B):O = A + B:=by
 have e:w ^ m = w ^ (m - 1) * w:=by rw [<- Nat.pow_succ];congr 1;omega
 rw [e] at h
 generalize w ^ (m - 1) = p at *
 cases c with
 | zero=>simpa using h
 | succ c =>
  exfalso
  have h1:p * w * (c + 1) = p * w * c + p * w:=Nat.mul_succ _ _
  have h2:p * 2 <= p * w:=Nat.mul_le_mul_left _ hw
  have h3:0 <= p * w * c:=fN _
  omega
theorem add_end {A B O c m:Nat} (hm:0 < m) (hA:A < W ^ (m - 1)) (hB:B < W ^ (m - 1)) (h:O + W ^ m * c = A + B):O = A + B:=add_end' (by decide) hm hA hB h
theorem sub_step {A B O c k:Nat} (x y:Nat) (_hx:x < W) (hy:y < W) (hc:c <= 1) (h:A + W ^ k * c = O + B) :
  (A + W ^ k * x) + W ^ (k + 1) * (if x < y + c then 1 else 0) = (O + W ^ k * (if x < y + c then W + x - y - c else x - y - c)) + (B + W ^ k * y):=by
 have e:∀ z,W ^ (k + 1) * z = W ^ k * (W * z):=fun z=>by rw [Nat.pow_succ,Nat.mul_assoc]
 rw [e]
 generalize W ^ k = p at *
 split
 ·have:p * (W + x - y - c) + p * y + p * c = p * x + p * (W * 1):=by
   rw [<- Nat.mul_add,<- Nat.mul_add,<- Nat.mul_add];congr 1;omega
  omega
 ·have:p * (x - y - c) + p * y + p * c = p * x:=by
   rw [<- Nat.mul_add,<- Nat.mul_add];congr 1;omega
  simp only [Nat.mul_zero,Nat.add_zero]
  omega
theorem mul_step {V V' c i k x y o P R:Nat} (hV:V' + W ^ (i + k) * o = V + W ^ (i + k) * ((c + (x * y + o)) % W)) (h:V + W ^ (i + k) * c = P + x * W ^ i * R) :
  V' + W ^ (i + (k + 1)) * ((c + (x * y + o)) / W) = P + x * W ^ i * (R + W ^ k * y):=by
 have e:W ^ (i + (k + 1)) * ((c + (x * y + o)) / W) = W ^ (i + k) * (W * ((c + (x * y + o)) / W)):=by rw [<- Nat.add_assoc,Nat.pow_succ,Nat.mul_assoc]
 have h1:W ^ (i + k) * ((c + (x * y + o)) % W) + W ^ (i + k) * (W * ((c + (x * y + o)) / W)) = W ^ (i + k) * c + W ^ (i + k) * (x * y) + W ^ (i + k) * o:=by
  rw [<- Nat.mul_add,Nat.mod_add_div,<- Nat.mul_add,<- Nat.mul_add,Nat.add_assoc]
 have h2:x * W ^ i * (R + W ^ k * y) = x * W ^ i * R + W ^ (i + k) * (x * y):=by
  rw [Nat.mul_add,Nat.pow_add]
  congr 1
  ac_rfl
 rw [e,h2]
 omega
theorem or_add {a b s:Nat} (hb:b < 2 ^ s):(2 ^ s * a) ||| b = 2 ^ s * a + b:=(Nat.two_pow_add_eq_or_of_lt hb a).symm
theorem low_of_lt {l:List UInt32} {m:Nat} (h:val l < W ^ m):VN l m = val l:=by
 by_cases hm:m <= l.length
 ·have e:=tI l m hm
  have:val (l.drop m) = 0:=by
   refine Decidable.byContradiction fun h2=>?_
   have:4294967296 ^ m * 1 <= 4294967296 ^ m * val (l.drop m):=Nat.mul_le_mul_left _ (by omega)
   simp only [W] at h
   omega
  unfold VN
  rw [e,this];simp
 ·exact eH l (by omega)
theorem sub_end {w A B O c m:Nat} (hO:O < w ^ m) (hBA:B <= A) (hc:c <= 1) (h:A + w ^ m * c = O + B):O = A - B:=by
 generalize w ^ m = p at *
 match c,hc with
 | 0,_=>simp at h;omega
 | 1,_=>simp at h;omega
 | c + 2,hc=>omega
def ID (x y:Nat):Int:=if x < y then -1 else if y < x then 1 else 0
theorem cmp_len {x y:Nat} (h:(DB x).length < (DB y).length):x < y:=by
 have h1:=digits_ge h
 have h2:=IE (DB x)
 rw [FC] at h2
 exact HA h2 h1
theorem uK {s t:List UInt32} (hl:s.length = t.length) (k:Nat) (h:∀ j,k <= j -> KC s j = KC t j):s.drop k = t.drop k:=by
 apply List.ext_getElem
 ·simp [hl]
 ·intro i h1 h2
  simp only [List.length_drop] at h1 h2
  have:=h (k + i) (by omega)
  rw [iE s _ (by omega),iE t _ (by omega)] at this
  simp only [List.getElem_drop]
  exact UInt32.toNat_inj.1 this
theorem cmp_at {s t:List UInt32} (hl:s.length = t.length) (k:Nat) (hk:k < s.length) (h:∀ j,k < j -> KC s j = KC t j) (hlt:KC s k < KC t k):val s < val t:=by
 have e:=uK hl (k + 1) (fun j hj=>h j hj)
 rw [tI s (k + 1) (by omega),tI t (k + 1) (by omega),e]
 have h1:=BE s k
 have h2:=BE t k
 have h3:=low_lt s k
 unfold VN at h1 h2 h3
 rw [h1,h2]
 have:4294967296 ^ k * (KC s k + 1) <= 4294967296 ^ k * KC t k:=Nat.mul_le_mul_left _ hlt
 rw [Nat.mul_add] at this
 omega
theorem cmp_all {s t:List UInt32} (hl:s.length = t.length) (h:∀ j,KC s j = KC t j):s = t:=by
 have:=uK hl 0 (fun j _=>h j)
 simpa using this
end Go.Off
namespace Go.Off
structure DigI (A0 b A q k:Nat):Prop where
 eq:A0 = A + b * q
 lt:A < b * 2 ^ k
 dv:∃ m,q = 2 ^ k * m
 qlt:q + 2 ^ k <= 2 ^ 32
theorem DigI.start {A0 b:Nat} (h:A0 < b * 2 ^ 32):DigI A0 b A0 0 32:=⟨by omega,h,⟨0,rfl⟩,by omega⟩
theorem DigI.yes {A0 b A q k:Nat} (h:DigI A0 b A q (k + 1)) (hk:b * 2 ^ k <= A):DigI A0 b (A - b * 2 ^ k) (q ||| 2 ^ k) k /\ q ||| 2 ^ k = q + 2 ^ k:=by
 obtain ⟨m,hm⟩:=h.dv
 have e:q ||| 2 ^ k = q + 2 ^ k:=by rw [hm];exact or_add (Nat.pow_lt_pow_right (by decide) (Nat.lt_succ_self k))
 have hp:(2:Nat) ^ (k + 1) = 2 ^ k * 2:=Nat.pow_succ ..
 have hl:=h.lt
 have hq:=h.qlt
 refine ⟨⟨?_,?_,⟨2 * m + 1,?_⟩,?_⟩,e⟩
 ·have:=h.eq;rw [e,Nat.mul_add];omega
 ·rw [hp,<- Nat.mul_assoc] at hl;omega
 ·rw [e,hm,hp,Nat.mul_add,Nat.mul_assoc,Nat.mul_one]
 ·rw [e];omega
theorem DigI.no {A0 b A q k:Nat} (h:DigI A0 b A q (k + 1)) (hk:A < b * 2 ^ k):DigI A0 b A q k:=by
 obtain ⟨m,hm⟩:=h.dv
 have hp:(2:Nat) ^ (k + 1) = 2 ^ k * 2:=Nat.pow_succ ..
 have hq:=h.qlt
 exact ⟨h.eq,hk,⟨2 * m,by rw [hm,hp,Nat.mul_assoc]⟩,by omega⟩
theorem DigI.done {A0 b A q:Nat} (h:DigI A0 b A q 0):q = A0 / b /\ A = A0 % b:=by
 have hl:=h.lt
 simp at hl
 have he:=h.eq
 have hb:0 < b:=by omega
 constructor
 ·rw [he,Nat.add_mul_div_left _ _ hb,Nat.div_eq_of_lt hl,Nat.zero_add]
 ·rw [he,Nat.add_mul_mod_self_left,Nat.mod_eq_of_lt hl]
theorem div_step (H b x:Nat) (hb:0 < b):(x + W * H) / b = (x + W * (H % b)) / b + W * (H / b) /\ (x + W * H) % b = (x + W * (H % b)) % b:=by
 have e:x + W * H = (x + W * (H % b)) + b * (W * (H / b)):=by
  have:=Nat.mod_add_div H b
  have h2:b * (W * (H / b)) = W * (b * (H / b)):=by ac_rfl
  rw [h2,Nat.add_assoc,<- Nat.mul_add,this]
 constructor
 ·rw [e,Nat.add_mul_div_left _ _ hb]
 ·rw [e,Nat.add_mul_mod_self_left]
theorem div_word {H b x:Nat} (hb:0 < b) (hx:x < W):(x + W * (H % b)) / b < W /\ x + W * (H % b) < b * W:=by
 have h1:H % b + 1 <= b:=Nat.mod_lt _ hb
 have h2:W * (H % b + 1) <= W * b:=Nat.mul_le_mul_left _ h1
 rw [Nat.mul_add,Nat.mul_comm W b] at h2
 have h3:x + W * (H % b) < b * W:=by omega
 exact ⟨Nat.div_lt_of_lt_mul h3,h3⟩
theorem gcd_step (a b:Nat):Nat.gcd b (a % b) = Nat.gcd a b:=by
 rw [Nat.gcd_comm b,<- Nat.gcd_rec b a,Nat.gcd_comm]
end Go.Off
namespace Go.Off
theorem shl_word {x d n:Nat} (hn:n < 32) (hx:x < W) (hd:d < 2 ^ n) :
  d ||| (x * 2 ^ n % W) = d + x * 2 ^ n % W /\ d + x * 2 ^ n % W < W /\ x * 2 ^ n / W < 2 ^ n /\ x * 2 ^ n < 18446744073709551616:=by
 have e:W = 2 ^ n * 2 ^ (32 - n):=by rw [<- Nat.pow_add];rw [show n + (32 - n) = 32 by omega]
 have h1:x * 2 ^ n % W = 2 ^ n * (x % 2 ^ (32 - n)):=by rw [e,Nat.mul_comm x,Nat.mul_mod_mul_left]
 have hp:0 < 2 ^ (32 - n):=Nat.pow_pos (by decide)
 have h2:=Nat.mod_lt x hp
 have h3:2 ^ n * (x % 2 ^ (32 - n) + 1) <= 2 ^ n * 2 ^ (32 - n):=Nat.mul_le_mul_left _ h2
 rw [Nat.mul_add,<- e] at h3
 have h4:x * 2 ^ n < W * 2 ^ n:=Nat.mul_lt_mul_of_pos_right hx (Nat.pow_pos (by decide))
 have h5:(2:Nat) ^ n <= 2 ^ 32:=Nat.pow_le_pow_right (by decide) (by omega)
 have h6:W * 2 ^ n <= W * 2 ^ 32:=Nat.mul_le_mul_left _ h5
 refine ⟨?_,?_,Nat.div_lt_of_lt_mul h4,?_⟩
 ·rw [h1,Nat.or_comm,or_add hd,Nat.add_comm]
 ·rw [h1];omega
 ·simp only [W] at h4 h6
  omega
theorem shl_val' {w k d y n V V1 V2 A x:Nat} (hy:y = x * 2 ^ n) (h1:V1 + w ^ k * d = V + w ^ k * (d + y % w)) (h2:V2 = V1 + w ^ (k + 1) * (y / w)) (h:V = A * 2 ^ n):V2 = (A + w ^ k * x) * 2 ^ n:=by
 have e1:w ^ (k + 1) * (y / w) = w ^ k * (w * (y / w)):=by rw [Nat.pow_succ,Nat.mul_assoc]
 have e2:w ^ k * (y % w) + w ^ k * (w * (y / w)) = w ^ k * y:=by rw [<- Nat.mul_add,Nat.mod_add_div]
 rw [Nat.mul_add] at h1
 rw [Nat.add_mul,<- h,Nat.mul_assoc,<- hy]
 rw [e1] at h2
 generalize w ^ k * (y % w) = p at *
 generalize w ^ k * (w * (y / w)) = q at *
 generalize w ^ k * y = r at *
 generalize w ^ k * d = t at *
 omega
theorem shl_val {k d y n V V1 V2 A x:Nat} (hy:y = x * 2 ^ n) (h1:V1 + W ^ k * d = V + W ^ k * (d + y % W)) (h2:V2 + W ^ (k + 1) * 0 = V1 + W ^ (k + 1) * (y / W)) (h:V = A * 2 ^ n):V2 = (A + W ^ k * x) * 2 ^ n :=
 shl_val' hy h1 (by rw [Nat.mul_zero,Nat.add_zero] at h2;exact h2) h
end Go.Off
namespace Go.Off
def LM (x y:Rat):Int:=if x < y then -1 else if y < x then 1 else 0
theorem xM {n m:Int} {d e:Nat} (hd:d ≠ 0) (he:e ≠ 0):mkRat n d < mkRat m e ↔ n * e < m * d:=by
 rw [Rat.mkRat_eq_div,Rat.mkRat_eq_div]
 have h1:(0:Rat) < (d:Rat):=by exact_mod_cast Nat.pos_of_ne_zero hd
 have h2:(0:Rat) < (e:Rat):=by exact_mod_cast Nat.pos_of_ne_zero he
 rw [Rat.div_lt_iff h1]
 have h3:(m:Rat) / e * d = (m * d) / e:=by grind
 rw [h3,Rat.lt_div_iff h2]
 exact_mod_cast Iff.rfl
theorem cmp_mkRat {n m:Int} {d e:Nat} (hd:d ≠ 0) (he:e ≠ 0):(if n * e < m * d then (-1:Int) else if m * d < n * e then 1 else 0) = LM (mkRat n d) (mkRat m e):=by
 unfold LM
 simp only [xM hd he,xM he hd]
end Go.Off
namespace Go.Off
abbrev QM:=List (List Rat)
def eQ (Q:QM) (i k:Nat):Rat:=(Q.getD i []).getD k 0
def yC (a:List Rat) (q:Rat):List Rat:=a.map (· * q)
def LN (a b:List Rat):List Rat:=List.zipWith (· + ·) a b
def sE (Q:QM) (k:Nat):Nat -> Nat -> Nat
 | 0,i=>i
 | f + 1,i=>if eQ Q i k = 0 then sE Q k f (i + 1) else i
def XK (Q:QM) (k a:Nat):Nat:=sE Q k (Q.length - a) a
def GF (Q:QM) (a i:Nat):QM:=(Q.set a (Q.getD i [])).set i (Q.getD a [])
def WJ (Q:QM) (a k:Nat):QM:=Q.set a (yC (Q.getD a []) (1 / eQ Q a k))
def dO (a k:Nat) (M:QM) (j:Nat):QM:=if j = a \/ eQ M j k = 0 then M else M.set j (LN (M.getD j []) (yC (M.getD a []) (-(eQ M j k))))
def IC (Q:QM) (a k j:Nat):QM:=(List.range j).foldl (dO a k) Q
def MJ (S:QM × List Nat) (k:Nat):QM × List Nat :=
 if XK S.1 k S.2.length = S.1.length then S
 else (IC (WJ (GF S.1 S.2.length (XK S.1 k S.2.length)) S.2.length k) S.2.length k S.1.length,S.2 ++ [k])
def rC (Q:QM) (k:Nat):QM × List Nat:=(List.range k).foldl MJ (Q,[])
theorem tK (Q:QM) (a k j:Nat):IC Q a k (j + 1) = dO a k (IC Q a k j) j:=by
 unfold IC;rw [List.range_succ,List.foldl_append];rfl
theorem QE (Q:QM) (k:Nat):rC Q (k + 1) = MJ (rC Q k) k:=by
 unfold rC;rw [List.range_succ,List.foldl_append];rfl
theorem mQ (Q:QM) (k:Nat):∀ (f i:Nat),i <= sE Q k f i /\ sE Q k f i <= i + f
 | 0,i=>⟨EA _,EA _⟩
 | f + 1,i=>by
  unfold sE
  split
  ·have:=mQ Q k f (i + 1);omega
  ·omega
theorem pivQ_ge {Q:QM} {k a:Nat} (h:a <= Q.length):a <= XK Q k a /\ XK Q k a <= Q.length:=by
 have:=mQ Q k (Q.length - a) a
 unfold XK;omega
theorem pG {Q:QM} {i j:Nat} {r:List Rat} (h:i ≠ j):(Q.set i r).getD j [] = Q.getD j []:=by
 rw [bA,bA,List.getElem?_set_ne h]
theorem KF {Q:QM} {i:Nat} {r:List Rat} (h:i < Q.length):(Q.set i r).getD i [] = r:=by
 rw [bA,List.getElem?_set_self h];rfl
theorem lQ (Q:QM) (k:Nat):∀ (f i:Nat),sE Q k f i < i + f -> eQ Q (sE Q k f i) k ≠ 0
 | 0,i,h=>by unfold sE at h;omega
 | f + 1,i,h=>by
  unfold sE at h ⊢
  split
  ·rename_i h0
   rw [if_pos h0] at h
   exact lQ Q k f (i + 1) (by omega)
  ·rename_i h0;exact h0
theorem pivQ_nz {Q:QM} {k a:Nat} (ha:a <= Q.length) (h:XK Q k a < Q.length):eQ Q (XK Q k a) k ≠ 0:=by
 unfold XK at h ⊢;exact lQ Q k _ a (by omega)
theorem AS (Q:QM) (k:Nat):∀ (f i j:Nat),i <= j -> j < sE Q k f i -> eQ Q j k = 0
 | 0,i,j,h,hj=>by unfold sE at hj;omega
 | f + 1,i,j,h,hj=>by
  unfold sE at hj
  split at hj
  ·rename_i h0
   by_cases he:j = i
   ·rw [he];exact h0
   ·exact AS Q k f (i + 1) j (by omega) hj
  ·omega
def BI (M:QM) (n m:Nat):Prop:=M.length = n /\ ∀ i,i < n -> (M.getD i []).length = m
theorem BH (a:List Rat) (q:Rat) (c:Nat):(yC a q).getD c 0 = a.getD c 0 * q:=by
 unfold yC
 rw [bA,bA,List.getElem?_map]
 cases a[c]? with
 | none=>simp
 | some x=>rfl
theorem zL (a:List Rat) (q:Rat):(yC a q).length = a.length:=by unfold yC;rw [eA]
theorem addL_len (a b:List Rat):(LN a b).length = min a.length b.length:=by unfold LN;rw [List.length_zipWith]
theorem addL_get {a b:List Rat} (h:a.length = b.length) (c:Nat):(LN a b).getD c 0 = a.getD c 0 + b.getD c 0:=by
 unfold LN
 rw [bA,bA,bA,List.getElem?_zipWith]
 by_cases hc:c < a.length
 ·rw [aA hc,aA (by omega)];rfl
 ·rw [List.getElem?_eq_none (by omega),List.getElem?_eq_none (by omega)];exact (Rat.add_zero 0).symm
theorem eQ_set {M:QM} {i:Nat} (r:List Rat) (hi:i < M.length) (j c:Nat):eQ (M.set i r) j c = if j = i then r.getD c 0 else eQ M j c:=by
 unfold eQ
 split
 ·rename_i h;subst h;rw [KF hi]
 ·rename_i h;rw [pG (fun e=>h e.symm)]
theorem BI.set {M:QM} {n m i:Nat} {r:List Rat} (h:BI M n m) (hr:r.length = m):BI (M.set i r) n m:=by
 refine ⟨by rw [List.length_set];exact h.1,fun j hj=>?_⟩
 by_cases he:j = i
 ·subst he;rw [KF (by rw [h.1];exact hj)];exact hr
 ·rw [pG (fun e=>he e.symm)];exact h.2 j hj
theorem shp_swap {M:QM} {n m a i:Nat} (h:BI M n m) (ha:a < n) (hi:i < n):BI (GF M a i) n m:=(h.set (h.2 i hi)).set (h.2 a ha)
theorem eQ_swap {M:QM} {n m a i:Nat} (h:BI M n m) (ha:a < n) (hi:i < n) (j c:Nat):eQ (GF M a i) j c = if j = i then eQ M a c else if j = a then eQ M i c else eQ M j c:=by
 unfold GF
 rw [eQ_set _ (by rw [List.length_set,h.1];exact hi),eQ_set _ (by rw [h.1];exact ha)]
 rfl
theorem shp_one {M:QM} {n m a k:Nat} (h:BI M n m) (ha:a < n):BI (WJ M a k) n m:=h.set (by rw [zL];exact h.2 a ha)
theorem eQ_one {M:QM} {n m a:Nat} (h:BI M n m) (ha:a < n) (k j c:Nat):eQ (WJ M a k) j c = if j = a then eQ M a c * (1 / eQ M a k) else eQ M j c:=by
 unfold WJ
 rw [eQ_set _ (by rw [h.1];exact ha),BH]
 rfl
theorem elim_at {M:QM} {n m a:Nat} (h:BI M n m) (ha:a < n) (k j:Nat) (hj:j <= n) :
  BI (IC M a k j) n m /\ ∀ i c,eQ (IC M a k j) i c = if i < j /\ i ≠ a then eQ M i c + eQ M a c * (-(eQ M i k)) else eQ M i c:=by
 induction j with
 | zero=>exact ⟨h,fun i c=>by rw [if_neg (by omega)];rfl⟩
 | succ j ih =>
  obtain ⟨h1,h2⟩:=ih (by omega)
  rw [tK]
  have hja:∀ c,eQ (IC M a k j) j c = eQ M j c:=fun c=>by rw [h2,if_neg (by omega)]
  have haa:∀ c,eQ (IC M a k j) a c = eQ M a c:=fun c=>by rw [h2,if_neg (by omega)]
  unfold dO
  rw [hja]
  split
  ·rename_i hc
   refine ⟨h1,fun i c=>?_⟩
   rw [h2]
   by_cases hi:i < j /\ i ≠ a
   ·rw [if_pos hi,if_pos ⟨by omega,hi.2⟩]
   ·rw [if_neg hi]
    split
    ·rename_i h3
     have hij:i = j:=by omega
     subst hij
     rcases hc with hc | hc
     ·exact (h3.2 hc).elim
     ·rw [hc,Rat.neg_zero,Rat.mul_zero,Rat.add_zero]
    ·rfl
  ·rename_i hc
   have l1:((IC M a k j).getD j []).length = m:=h1.2 j (by omega)
   have l2:((IC M a k j).getD a []).length = m:=h1.2 a ha
   refine ⟨h1.set (by rw [addL_len,zL,l1,l2,Nat.min_self]),fun i c=>?_⟩
   rw [eQ_set _ (by rw [h1.1];omega),addL_get (by rw [zL,l1,l2]),BH]
   show (if i = j then eQ (IC M a k j) j c + eQ (IC M a k j) a c * (-(eQ M j k)) else eQ (IC M a k j) i c) = _
   rw [hja,haa,h2]
   by_cases hi:i = j
   ·subst hi
    rw [if_pos rfl,if_pos ⟨by omega,fun e=>hc (.inl e)⟩]
   ·rw [if_neg hi]
    by_cases h3:i < j /\ i ≠ a
    ·rw [if_pos h3,if_pos ⟨by omega,h3.2⟩]
    ·rw [if_neg h3,if_neg (by omega)]
def swE (M:QM) (a i j c:Nat):Rat:=if j = i then eQ M a c else if j = a then eQ M i c else eQ M j c
theorem swE_a (M:QM) (a i c:Nat):swE M a i a c = eQ M i c:=by
 unfold swE
 split
 ·rename_i h;rw [h]
 ·rw [if_pos rfl]
theorem wT {M:QM} {n m a i:Nat} (h:BI M n m) (ha:a < n) (hi:i < n) (k:Nat) :
  BI (IC (WJ (GF M a i) a k) a k n) n m /\ ∀ j c,j < n -> eQ (IC (WJ (GF M a i) a k) a k n) j c =
   if j = a then eQ M i c * (1 / eQ M i k) else swE M a i j c + eQ M i c * (1 / eQ M i k) * (-(swE M a i j k)):=by
 have h1:=shp_swap h ha hi
 have h2:=shp_one (k:=k) h1 ha
 obtain ⟨h3,h4⟩:=elim_at h2 ha k n (EA _)
 refine ⟨h3,fun j c hj=>?_⟩
 have hs:∀ j c,eQ (GF M a i) j c = swE M a i j c:=fun j c=>eQ_swap h ha hi j c
 have ho:∀ j c,eQ (WJ (GF M a i) a k) j c = if j = a then eQ M i c * (1 / eQ M i k) else swE M a i j c:=fun j c=>by
  rw [eQ_one h1 ha,hs,hs,hs,swE_a,swE_a]
 rw [h4,ho,ho,ho]
 by_cases hja:j = a
 ·subst hja
  rw [if_neg (by omega),if_pos rfl,if_pos rfl]
 ·rw [if_pos ⟨hj,hja⟩,if_neg hja,if_neg hja,if_neg hja,if_pos rfl]
structure RInv (n m:Nat) (M:QM) (P:List Nat) (k:Nat):Prop where
 shp:BI M n m
 le:P.length <= n
 lt:∀ i,i < P.length -> P.getD i 0 < k
 inc:∀ i j,i < j -> j < P.length -> P.getD i 0 < P.getD j 0
 one:∀ i j,i < P.length -> j < n -> eQ M j (P.getD i 0) = if j = i then 1 else 0
 lead:∀ i c,i < P.length -> c < P.getD i 0 -> eQ M i c = 0
 nil:∀ i c,P.length <= i -> i < n -> c < k -> eQ M i c = 0
theorem PI (P:List Nat) (k i:Nat):(P ++ [k]).getD i 0 = if i < P.length then P.getD i 0 else if i = P.length then k else 0:=by
 rw [bA,bA]
 split
 ·rename_i h;rw [List.getElem?_append_left h]
 ·rename_i h
  rw [List.getElem?_append_right (by omega)]
  split
  ·rename_i h2;rw [h2,Nat.sub_self];rfl
  ·rename_i h2
   rw [List.getElem?_eq_none (by simp only [oA,pA];omega)]
   rfl
theorem yH {n m:Nat} {M:QM} {P:List Nat} {k:Nat} (h:RInv n m M P k) :
  (MJ (M,P) k = (M,P) /\ ∀ i,P.length <= i -> i < n -> eQ M i k = 0) \/
  (∃ i,P.length <= i /\ i < n /\ eQ M i k ≠ 0 /\ MJ (M,P) k = (IC (WJ (GF M P.length i) P.length k) P.length k n,P ++ [k])):=by
 have hl:=h.shp.1
 have hg:=pivQ_ge (Q:=M) (k:=k) (a:=P.length) (by rw [hl];exact h.le)
 unfold MJ
 dsimp only
 by_cases hp:XK M k P.length = M.length
 ·left
  rw [if_pos hp]
  refine ⟨rfl,fun i h1 h2=>?_⟩
  unfold XK at hp
  exact AS M k (M.length - P.length) P.length i h1 (by omega)
 ·right
  rw [if_neg hp,hl]
  exact ⟨XK M k P.length,hg.1,by omega,pivQ_nz (by rw [hl];exact h.le) (by omega),rfl⟩
theorem step_inv {n m:Nat} {M:QM} {P:List Nat} {k:Nat} (h:RInv n m M P k) (hk:k < m):RInv n m (MJ (M,P) k).1 (MJ (M,P) k).2 (k + 1):=by
 rcases yH h with ⟨he,hz⟩ | ⟨i,hai,hin,hx,he⟩
 ·rw [he]
  refine ⟨h.shp,h.le,fun i hi=>Nat.lt_succ_of_lt (h.lt i hi),h.inc,h.one,h.lead,fun i c h1 h2 h3=>?_⟩
  by_cases hc:c = k
  ·rw [hc];exact hz i h1 h2
  ·exact h.nil i c h1 h2 (by omega)
 ·rw [he]
  dsimp only
  have ha:P.length < n:=by omega
  obtain ⟨hs,hN⟩:=wT h.shp ha hin k
  have hmul:eQ M i k * (1 / eQ M i k) = 1:=by rw [Rat.div_def,Rat.one_mul];exact Rat.mul_inv_cancel _ hx
  have hlen:(P ++ [k]).length = P.length + 1:=by rw [sA];rfl
  have hz:∀ c,c < k -> eQ M i c = 0:=fun c hc=>h.nil i c hai hin hc
  have hsw:∀ j c,c < k -> P.length <= j -> j < n -> swE M P.length i j c = 0:=fun j c hc h1 h2=>by
   unfold swE
   split
   ·exact h.nil _ c (EA _) ha hc
   ·split
    ·exact hz c hc
    ·exact h.nil j c h1 h2 hc
  have hsl:∀ j c,j < P.length -> swE M P.length i j c = eQ M j c:=fun j c hj=>by
   unfold swE
   rw [if_neg (by omega),if_neg (by omega)]
  refine ⟨hs,by omega,fun l hl=>?_,fun l j hlj hj=>?_,fun l j hl hj=>?_,fun l c hl hc=>?_,fun l c hl hln hc=>?_⟩
  ·rw [PI]
   split
   ·rename_i h1;exact Nat.lt_succ_of_lt (h.lt l h1)
   ·rw [if_pos (by omega)];omega
  ·rw [PI,PI,if_pos (by omega)]
   split
   ·rename_i h1;exact h.inc l j hlj h1
   ·rw [if_pos (by omega)];exact h.lt l (by omega)
  ·rw [hN _ _ hj,PI]
   by_cases hl':l < P.length
   ·rw [if_pos hl',hz _ (h.lt l hl')]
    by_cases hja:j = P.length
    ·rw [if_pos hja,if_neg (by omega)];simp [Rat.add_zero,Rat.zero_mul,Rat.mul_zero]
    ·rw [if_neg hja]
     by_cases hjl:j < P.length
     ·rw [hsl j _ hjl,h.one l j hl' hj];simp [Rat.add_zero,Rat.zero_mul,Rat.mul_zero]
     ·rw [hsw j _ (h.lt l hl') (by omega) hj,if_neg (by omega)];simp [Rat.add_zero,Rat.zero_mul,Rat.mul_zero]
   ·have hla:l = P.length:=by omega
    rw [if_neg hl',if_pos hla,hmul,hla]
    by_cases hja:j = P.length
    ·rw [if_pos hja,if_pos hja]
    ·rw [if_neg hja,if_neg hja,Rat.one_mul,Rat.add_neg_cancel]
  ·rw [PI] at hc
   by_cases hl':l < P.length
   ·rw [if_pos hl'] at hc
    have hck:=h.lt l hl'
    rw [hN _ _ (by omega),if_neg (by omega),hz c (by omega),hsl l c hl',h.lead l c hl' hc];simp [Rat.add_zero,Rat.zero_mul,Rat.mul_zero]
   ·rw [if_neg hl',if_pos (by omega)] at hc
    rw [hN _ _ (by omega),if_pos (by omega),hz c hc];simp [Rat.add_zero,Rat.zero_mul,Rat.mul_zero]
  ·rw [hN _ _ hln,if_neg (by omega)]
   by_cases hck:c = k
   ·rw [hck,hmul,Rat.one_mul,Rat.add_neg_cancel]
   ·rw [hz c (by omega),hsw l c (by omega) (by omega) hln];simp [Rat.add_zero,Rat.zero_mul,Rat.mul_zero]
theorem XF {Q:QM} {n m:Nat} (h:BI Q n m) (k:Nat) (hk:k <= m):RInv n m (rC Q k).1 (rC Q k).2 k:=by
 induction k with
 | zero=>exact ⟨h,fN _,fun i hi=>absurd hi (by simp [rC]),fun i j _ hi=>absurd hi (by simp [rC]),fun i j hi=>absurd hi (by simp [rC]),fun i c hi=>absurd hi (by simp [rC]),fun i c _ _ hc=>by omega⟩
 | succ k ih=>rw [QE];exact step_inv (ih (by omega)) (by omega)
theorem RInv.room {n m:Nat} {M:QM} {P:List Nat} {k:Nat} (h:RInv n m M P k) (d:Nat):∀ i,i < P.length -> d = P.length - i -> P.getD i 0 + d <= k:=by
 induction d with
 | zero=>intro i h1 h2;omega
 | succ d ih =>
  intro i h1 h2
  by_cases he:i + 1 < P.length
  ·have h3:=ih (i + 1) he (by omega)
   have h4:=h.inc i (i + 1) (by omega) he
   omega
  ·have:=h.lt i h1
   omega
theorem RInv.len_le {n m:Nat} {M:QM} {P:List Nat} {k:Nat} (h:RInv n m M P k):P.length <= k:=by
 by_cases h0:P.length = 0
 ·omega
 ·have:=h.room P.length 0 (by omega) (by omega);omega
theorem RInv.ge {n m:Nat} {M:QM} {P:List Nat} {k:Nat} (h:RInv n m M P k):∀ i,i < P.length -> i <= P.getD i 0:=by
 intro i
 induction i with
 | zero=>intro _;exact fN _
 | succ i ih=>intro hi;have h1:=ih (by omega);have h2:=h.inc i (i + 1) (by omega) hi;omega
theorem RInv.id {n m:Nat} {M:QM} {P:List Nat} {k:Nat} (h:RInv n m M P k) (hp:P.length = k):∀ i,i < P.length -> P.getD i 0 = i:=fun i hi=>by
 have h1:=h.ge i hi
 have h2:=h.room (P.length - i) i hi rfl
 omega
end Go.Off
namespace Go.Off
def OB:Nat -> (Nat -> Rat) -> Rat
 | 0,_=>0
 | n + 1,f=>OB n f + f n
theorem dB {n:Nat} {f g:Nat -> Rat} (h:∀ i,i < n -> f i = g i):OB n f = OB n g:=by
 induction n with
 | zero=>rfl
 | succ n ih=>unfold OB;rw [ih (fun i hi=>h i (by omega)),h n (by omega)]
theorem gS (n:Nat):OB n (fun _=>0) = 0:=by
 induction n with
 | zero=>rfl
 | succ n ih=>unfold OB;rw [ih];exact Rat.add_zero 0
theorem zF {n:Nat} {f:Nat -> Rat} (h:∀ i,i < n -> f i = 0):OB n f = 0:=by rw [dB h,gS]
theorem TF (n:Nat) (f g:Nat -> Rat) (q:Rat):OB n (fun i=>f i + g i * q) = OB n f + OB n g * q:=by
 induction n with
 | zero=>simp [OB,Rat.add_zero,Rat.zero_add,Rat.zero_mul]
 | succ n ih=>unfold OB;rw [ih];grind
theorem AE (n:Nat) (f:Nat -> Rat) (q:Rat):OB n (fun i=>f i * q) = OB n f * q:=by
 induction n with
 | zero=>simp [OB,Rat.add_zero,Rat.zero_add,Rat.zero_mul]
 | succ n ih=>unfold OB;rw [ih];grind
theorem cM (n:Nat) (f g:Nat -> Rat):OB n (fun i=>f i + g i) = OB n f + OB n g:=by
 induction n with
 | zero=>simp [OB,Rat.add_zero,Rat.zero_add,Rat.zero_mul]
 | succ n ih=>unfold OB;rw [ih];grind
theorem WC (n j:Nat) (g:Nat -> Rat):OB n (fun i=>if j = i then g i else 0) = if j < n then g j else 0:=by
 induction n with
 | zero=>simp [OB,Rat.add_zero,Rat.zero_add,Rat.zero_mul]
 | succ n ih =>
  unfold OB
  rw [ih]
  dsimp only
  by_cases h:j = n
  ·subst h;rw [if_neg (by omega),if_pos rfl,if_pos (by omega)];simp [Rat.add_zero,Rat.zero_add,Rat.zero_mul]
  ·rw [if_neg h]
   by_cases h2:j < n
   ·rw [if_pos h2,if_pos (by omega)];simp [Rat.add_zero,Rat.zero_add,Rat.zero_mul]
   ·rw [if_neg h2,if_neg (by omega)];simp [Rat.add_zero,Rat.zero_add,Rat.zero_mul]
theorem oH (n m:Nat) (f:Nat -> Nat -> Rat):OB n (fun i=>OB m (fun j=>f i j)) = OB m (fun j=>OB n (fun i=>f i j)):=by
 induction n with
 | zero=>exact (gS m).symm
 | succ n ih =>
  conv=>lhs;unfold OB
  rw [ih,<- cM]
  rfl
end Go.Off
namespace Go.Off
structure Lin (m:Nat) (T:(Nat -> Rat) -> Prop):Prop where
 zero:T (fun _=>0)
 comb:∀ u w q,T u -> T w -> T (fun c=>u c + w c * q)
 congr:∀ u w,(∀ c,c < m -> u c = w c) -> T u -> T w
def yG (n m:Nat) (f:Nat -> Nat -> Rat) (v:Nat -> Rat):Prop:=∀ T,Lin m T -> (∀ i,i < n -> T (f i)) -> T v
theorem yG.row {n m:Nat} {f:Nat -> Nat -> Rat} {i:Nat} (h:i < n):yG n m f (f i):=fun T _ hr=>hr i h
theorem yG.lin (n m:Nat) (f:Nat -> Nat -> Rat):Lin m (yG n m f) :=
 ⟨fun T hT _=>hT.zero,fun u w q hu hw T hT hr=>hT.comb u w q (hu T hT hr) (hw T hT hr),fun u w h hu T hT hr=>hT.congr u w h (hu T hT hr)⟩
theorem yG.trans {n k m:Nat} {f g:Nat -> Nat -> Rat} {v:Nat -> Rat} (h:∀ i,i < k -> yG n m f (g i)) (hv:yG k m g v):yG n m f v:=hv _ (yG.lin n m f) h
theorem yG.sum {n m:Nat} (f:Nat -> Nat -> Rat) (q:Nat -> Rat) (k:Nat) (hk:k <= n):yG n m f (fun c=>OB k (fun i=>f i c * q i)):=by
 induction k with
 | zero=>exact (yG.lin n m f).zero
 | succ k ih=>exact (yG.lin n m f).comb _ _ (q k) (ih (by omega)) (yG.row (by omega))
theorem step_old {n m:Nat} {M:QM} {P:List Nat} {k:Nat} (h:RInv n m M P k) (hk:k < m) (j:Nat) (hj:j < n):yG n m (eQ (MJ (M,P) k).1) (eQ M j):=by
 rcases yH h with ⟨he,hz⟩ | ⟨i,hai,hin,hx,he⟩
 ·rw [he];exact yG.row hj
 ·rw [he]
  dsimp only
  have ha:P.length < n:=by omega
  obtain ⟨hs,hN⟩:=wT h.shp ha hin k
  generalize IC (WJ (GF M P.length i) P.length k) P.length k n = N at *
  have hmul:eQ M i k * (1 / eQ M i k) = 1:=by rw [Rat.div_def,Rat.one_mul];exact Rat.mul_inv_cancel _ hx
  generalize 1 / eQ M i k = y at *
  have l:=yG.lin n m (eQ N)
  have h1:yG n m (eQ N) (eQ M i):=by
   refine l.congr _ _ ?_ (l.comb _ _ (eQ M i k) l.zero (yG.row ha))
   intro c _
   rw [hN _ _ ha,if_pos rfl]
   grind
  have h2:∀ j,j < n -> j ≠ P.length -> yG n m (eQ N) (swE M P.length i j):=fun j hj hja=>by
   refine l.congr _ _ ?_ (l.comb _ _ (swE M P.length i j k) (yG.row hj) (yG.row ha))
   intro c _
   rw [hN _ _ ha,hN _ _ hj,if_pos rfl,if_neg hja]
   grind
  by_cases hji:j = i
  ·rw [hji];exact h1
  ·by_cases hja:j = P.length
   ·have h3:=h2 i hin (by omega)
    refine l.congr _ _ ?_ h3
    intro c _
    unfold swE;rw [if_pos rfl,hja]
   ·have h3:=h2 j hj hja
    refine l.congr _ _ ?_ h3
    intro c _
    unfold swE;rw [if_neg hji,if_neg hja]
theorem step_new {n m:Nat} {M:QM} {P:List Nat} {k:Nat} (h:RInv n m M P k) (hk:k < m) (j:Nat) (hj:j < n):yG n m (eQ M) (eQ (MJ (M,P) k).1 j):=by
 rcases yH h with ⟨he,hz⟩ | ⟨i,hai,hin,hx,he⟩
 ·rw [he];exact yG.row hj
 ·rw [he]
  dsimp only
  have ha:P.length < n:=by omega
  obtain ⟨hs,hN⟩:=wT h.shp ha hin k
  generalize IC (WJ (GF M P.length i) P.length k) P.length k n = N at *
  generalize 1 / eQ M i k = y at *
  have l:=yG.lin n m (eQ M)
  have h2:∀ j,j < n -> yG n m (eQ M) (swE M P.length i j):=fun j hj=>by
   unfold swE
   by_cases h3:j = i
   ·simp only [if_pos h3];exact yG.row ha
   ·by_cases h4:j = P.length
    ·simp only [if_neg h3,if_pos h4];exact yG.row hin
    ·simp only [if_neg h3,if_neg h4];exact yG.row hj
  by_cases hja:j = P.length
  ·refine l.congr _ _ ?_ (l.comb _ _ y l.zero (yG.row hin))
   intro c _
   rw [hN _ _ hj,if_pos hja]
   grind
  ·refine l.congr _ _ ?_ (l.comb _ _ (y * (-(swE M P.length i j k))) (h2 j hj) (yG.row hin))
   intro c _
   rw [hN _ _ hj,if_neg hja]
   grind
theorem red_old {Q:QM} {n m:Nat} (h:BI Q n m) (k:Nat) (hk:k <= m):∀ j,j < n -> yG n m (eQ (rC Q k).1) (eQ Q j):=by
 induction k with
 | zero=>intro j hj;exact yG.row hj
 | succ k ih =>
  intro j hj
  rw [QE]
  exact yG.trans (fun i hi=>step_old (XF h k (by omega)) (by omega) i hi) (ih (by omega) j hj)
theorem HT {Q:QM} {n m:Nat} (h:BI Q n m) (k:Nat) (hk:k <= m):∀ j,j < n -> yG n m (eQ Q) (eQ (rC Q k).1 j):=by
 induction k with
 | zero=>intro j hj;exact yG.row hj
 | succ k ih =>
  intro j hj
  rw [QE]
  exact yG.trans (ih (by omega)) (step_new (XF h k (by omega)) (by omega) j hj)
theorem spans {n m:Nat} {R:QM} {P:List Nat} (h:RInv n m R P m) {v:Nat -> Rat} (hv:yG n m (eQ R) v):∀ c,c < m -> v c = OB P.length (fun i=>eQ R i c * v (P.getD i 0)):=by
 refine hv (fun v=>∀ c,c < m -> v c = OB P.length (fun i=>eQ R i c * v (P.getD i 0))) ⟨?_,?_,?_⟩ ?_
 ·intro c _
  rw [zF (fun i _=>Rat.mul_zero _)]
 ·intro u w q hu hw c hc
  dsimp only
  rw [hu c hc,hw c hc,<- TF]
  refine dB (fun i _=>?_)
  grind
 ·intro u w he hu c hc
  rw [<- he c hc,hu c hc]
  exact dB (fun i hi=>by rw [he _ (h.lt i hi)])
 ·intro j hj c hc
  have h1:∀ i,i < P.length -> eQ R i c * eQ R j (P.getD i 0) = if j = i then eQ R i c else 0:=fun i hi=>by
   rw [h.one i j hi hj]
   split <;> simp
  rw [dB h1,WC]
  split
  ·rfl
  ·rename_i h2;exact h.nil j c (by omega) hj hc
theorem uS {Q:QM} {n m:Nat} (h:BI Q n m) (j c:Nat) (hj:j < n) (hc:c < m):eQ Q j c = OB (rC Q m).2.length (fun i=>eQ (rC Q m).1 i c * eQ Q j ((rC Q m).2.getD i 0)) :=
 spans (XF h m (EA _)) (red_old h m (EA _) j hj) c hc
theorem dim_le:∀ (r:Nat) (u:Nat -> Nat -> Rat) (m s:Nat) (w:Nat -> Nat -> Rat) (p:Nat -> Nat),(∀ i,i < s -> p i < m) -> (∀ i,i < s -> yG r m u (w i)) ->
  (∀ i l,i < s -> l < s -> w i (p l) = if i = l then 1 else 0) -> s <= r:=by
 intro r
 induction r with
 | zero =>
  intro u m s w p hp hw h1
  by_cases h0:s = 0
  ·omega
  ·have hz:∀ c,c < m -> w 0 c = 0:=hw 0 (by omega) (fun v=>∀ c,c < m -> v c = 0) ⟨fun _ _=>rfl,fun u w q hu hw c hc=>by dsimp only;rw [hu c hc,hw c hc];simp [Rat.add_zero,Rat.zero_mul],fun u w he hu c hc=>by rw [<- he c hc];exact hu c hc⟩ (fun i hi=>by omega)
   have h2:=h1 0 0 (by omega) (by omega)
   rw [hz _ (hp 0 (by omega)),if_pos rfl] at h2
   exact absurd h2 (by decide)
 | succ r ih =>
  intro u m s w p hp hw h1
  cases s with
  | zero=>omega
  | succ s =>
   have hps:p s < m:=hp s (by omega)
   have hex:∃ l,l < r + 1 /\ u l (p s) ≠ 0:=by
    refine Classical.byContradiction (fun hn=>?_)
    have hz:w s (p s) = 0:=hw s (by omega) (fun v=>v (p s) = 0) ⟨rfl,fun u w q hu hw=>by dsimp only;rw [hu,hw];simp [Rat.add_zero,Rat.zero_mul],fun u w he hu=>by rw [<- he _ hps];exact hu⟩ (fun i hi=>Classical.byContradiction (fun h=>hn ⟨i,hi,h⟩))
    have h2:=h1 s s (by omega) (by omega)
    rw [hz,if_pos rfl] at h2
    exact absurd h2 (by decide)
   obtain ⟨l,hl,hx⟩:=hex
   have hmul:u l (p s) * (u l (p s))⁻¹ = 1:=Rat.mul_inv_cancel _ hx
   generalize hy:(u l (p s))⁻¹ = y at hmul
   have key:∀ v,yG (r + 1) m u v -> yG r m (fun j c=>u (if j = l then r else j) c + u l c * (-(u (if j = l then r else j) (p s) * y))) (fun c=>v c + u l c * (-(v (p s) * y))):=by
    intro v hv
    have L:=yG.lin r m (fun j c=>u (if j = l then r else j) c + u l c * (-(u (if j = l then r else j) (p s) * y)))
    refine hv (fun v=>yG r m (fun j c=>u (if j = l then r else j) c + u l c * (-(u (if j = l then r else j) (p s) * y))) (fun c=>v c + u l c * (-(v (p s) * y)))) ⟨?_,?_,?_⟩ ?_
    ·refine L.congr _ _ ?_ L.zero
     intro c _;grind
    ·intro a b q ha hb
     refine L.congr _ _ ?_ (L.comb _ _ q ha hb)
     intro c _;dsimp only;grind
    ·intro a b he ha
     refine L.congr _ _ ?_ ha
     intro c hc;rw [he c hc,he _ hps]
    ·intro j hj
     by_cases hjl:j = l
     ·subst hjl
      refine L.congr _ _ ?_ L.zero
      intro c _;grind
     ·by_cases hjr:j = r
      ·have hlr:l < r:=by omega
       have:=yG.row (n:=r) (m:=m) (f:=fun j c=>u (if j = l then r else j) c + u l c * (-(u (if j = l then r else j) (p s) * y))) hlr
       simp only [if_true] at this
       rw [hjr];exact this
      ·have:=yG.row (n:=r) (m:=m) (f:=fun j c=>u (if j = l then r else j) c + u l c * (-(u (if j = l then r else j) (p s) * y))) (i:=j) (by omega)
       simp only [if_neg hjl] at this
       exact this
   have:=ih (fun j c=>u (if j = l then r else j) c + u l c * (-(u (if j = l then r else j) (p s) * y))) m s w p (fun i hi=>hp i (by omega)) (fun i hi=>?_) (fun i l hi hl=>h1 i l (by omega) (by omega))
   ·omega
   ·refine (yG.lin r m _).congr _ _ ?_ (key (w i) (hw i (by omega)))
    intro c _
    rw [h1 i s (by omega) (by omega),if_neg (by omega)]
    grind
theorem rank_le {Q T:QM} {n m:Nat} (hQ:BI Q n m) (hT:BI T m n) (h:∀ i k,i < n -> k < m -> eQ T k i = eQ Q i k):(rC T n).2.length <= (rC Q m).2.length:=by
 have hR:=XF hT n (EA _)
 refine dim_le _ (fun i j=>eQ Q j ((rC Q m).2.getD i 0)) n _ (fun i=>eQ (rC T n).1 i) (fun l=>(rC T n).2.getD l 0) (fun i hi=>hR.lt i hi) (fun i hi=>?_) (fun i l hi hl=>?_)
 ·refine yG.trans (fun k hk=>?_) (HT hT n (EA _) i (by have:=hR.le;omega))
  refine (yG.lin _ n _).congr _ _ ?_ (yG.sum _ (fun i=>eQ (rC Q m).1 i k) _ (EA _))
  intro j hj
  rw [h j k hj hk,uS hQ j k hj hk]
  exact dB (fun i _=>Rat.mul_comm _ _)
 ·have:=hR.one l i hl (by have:=hR.le;omega)
  exact this
theorem rank_turned {Q T:QM} {n m:Nat} (hQ:BI Q n m) (hT:BI T m n) (h:∀ i k,i < n -> k < m -> eQ T k i = eQ Q i k):(rC T n).2.length = (rC Q m).2.length :=
 Nat.le_antisymm (rank_le hQ hT h) (rank_le hT hQ (fun i k hi hk=>(h k i hk hi).symm))
end Go.Off
namespace Go.Off
def sN (p:Nat -> Bool) (n:Nat):Int:=match (List.range n).find? p with | some i=>(i:Int) | none=>-1
def jG (p:Nat -> Bool) (n:Nat):Bool:=(List.range n).any p
theorem UK (p:Nat -> Bool) (n:Nat):jG p (n + 1) = (jG p n || p n):=by unfold jG;rw [List.range_succ,List.any_append];simp
theorem xG {p:Nat -> Bool} {n i:Nat} (h:jG p n = TA) (hi:i < n):p i = TA:=by
 have:=List.any_eq_false.1 h i (zA.2 hi)
 simpa using this
theorem AU {p:Nat -> Bool} {n:Nat} (h:∀ i,i < n -> p i = TA):jG p n = TA:=by
 unfold jG
 rw [List.any_eq_false]
 intro i hi
 rw [h i (zA.1 hi)]
 simp
theorem SI {p:Nat -> Bool} {n:Nat} (h:jG p n = TA):sN p n = -1:=by
 unfold sN
 rw [List.find?_eq_none.2 (fun i hi=>by rw [xG h (zA.1 hi)];simp)]
theorem QI {p:Nat -> Bool} {n k:Nat} (hk:k < n) (hz:jG p k = TA) (h:p k = SA):sN p n = k:=by
 unfold sN
 have:(List.range n).find? p = PA k:=by
  rw [List.find?_range_eq_some]
  refine ⟨h,zA.2 hk,fun i hi=>?_⟩
  rw [xG hz hi]
  rfl
 rw [this]
theorem HQ (p:Nat -> Bool) (n:Nat):decide (sN p n >= 0) = jG p n:=by
 cases h:jG p n with
 | false=>rw [SI h];rfl
 | true =>
  unfold jG at h
  rw [List.any_eq_true] at h
  obtain ⟨i,hi,hp⟩:=h
  unfold sN
  cases hf:(List.range n).find? p with
  | none =>
   have:=List.find?_eq_none.1 hf i hi
   exact (this hp).elim
  | some k=>simp
end Go.Off
namespace Go.Off
def jD (c:UInt8):Prop:=48 <= c.toNat /\ c.toNat <= 57
def chr (d:Nat):UInt8:=UInt8.ofNat (48 + d)
theorem wG {d:Nat} (h:d < 10):(chr d).toNat = 48 + d:=by unfold chr;simp [UInt8.toNat_ofNat'];omega
theorem chr_dig {d:Nat} (h:d < 10):jD (chr d):=by unfold jD;rw [wG h];omega
def rv:List UInt8 -> Nat
 | []=>0
 | c :: l=>(c.toNat - 48) + 10 * rv l
def tv (s:List UInt8):Nat:=rv s.reverse
def tJ (n:Nat):List UInt8:=if n = 0 then [] else chr (n % 10) :: tJ (n / 10)
def ZC (n:Nat):List UInt8:=if n = 0 then [48] else (tJ n).reverse
theorem NF:tJ 0 = []:=by rw [tJ];rfl
theorem FH {n:Nat} (h:n ≠ 0):tJ n = chr (n % 10) :: tJ (n / 10):=by rw [tJ,if_neg h]
theorem qH (l m:List UInt8):rv (l ++ m) = rv l + 10 ^ l.length * rv m:=by
 induction l with
 | nil=>simp [rv]
 | cons d l ih =>
  simp only [rA,rv,ih,oA,Nat.pow_succ]
  rw [Nat.mul_add,Nat.add_assoc,Nat.mul_comm (10 ^ l.length) 10,Nat.mul_assoc]
theorem rv_lt {l:List UInt8} (h:∀ c ∈ l,jD c):rv l < 10 ^ l.length:=by
 induction l with
 | nil=>simp [rv]
 | cons d l ih =>
  have:=ih (fun c hc=>h c (by simp [hc]))
  have hd:=h d (by simp)
  unfold jD at hd
  simp only [rv,oA,Nat.pow_succ]
  omega
theorem rv_rdec (n:Nat):rv (tJ n) = n:=by
 induction n using Nat.strongRecOn with
 | ind n ih =>
  by_cases h:n = 0
  ·subst h;rw [NF];rfl
  ·rw [FH h,rv,ih _ (by omega),wG (by omega)]
   omega
theorem rdec_dig (n:Nat):∀ c ∈ tJ n,jD c:=by
 induction n using Nat.strongRecOn with
 | ind n ih =>
  by_cases h:n = 0
  ·subst h;rw [NF];simp
  ·rw [FH h]
   intro c hc
   rcases List.mem_cons.1 hc with rfl | hc
   ·exact chr_dig (by omega)
   ·exact ih _ (by omega) c hc
theorem dec_dig (n:Nat):∀ c ∈ ZC n,jD c:=by
 unfold ZC
 split
 ·simp [jD]
 ·intro c hc;exact rdec_dig n c (by simpa using hc)
theorem tv_dec (n:Nat):tv (ZC n) = n:=by
 unfold ZC tv
 split
 ·rename_i h;subst h;rfl
 ·rw [List.reverse_reverse,rv_rdec]
theorem rdec_rv {l:List UInt8} (hd:∀ c ∈ l,jD c) (h:∀ hne:l ≠ [],l.getLast hne ≠ 48):tJ (rv l) = l:=by
 induction l with
 | nil=>exact NF
 | cons d l ih =>
  have hdd:=hd d (by simp)
  unfold jD at hdd
  have hl:=ih (fun c hc=>hd c (by simp [hc])) (fun hne=>by
   have:=h (by simp)
   rwa [List.getLast_cons hne] at this)
  have hpos:rv (d :: l) ≠ 0:=by
   cases l with
   | nil =>
    have h1:=h (by simp)
    simp only [List.getLast_singleton] at h1
    simp only [rv]
    intro h2
    apply h1
    apply UInt8.toNat_inj.1
    simp;omega
   | cons x l =>
    intro h2
    have:rv (x :: l) = 0:=by simp only [rv] at h2 ⊢;omega
    rw [this,NF] at hl
    cases hl
  rw [FH hpos]
  have h2:rv (d :: l) / 10 = rv l:=by simp only [rv];omega
  have h3:rv (d :: l) % 10 = d.toNat - 48:=by simp only [rv];omega
  rw [h2,h3,hl]
  congr 1
  apply UInt8.toNat_inj.1
  rw [wG (by omega)]
  omega
theorem tv_cons (c:UInt8) (s:List UInt8):tv (c :: s) = tv s + 10 ^ s.length * (c.toNat - 48):=by
 unfold tv
 rw [List.reverse_cons,qH]
 simp [rv]
theorem tv_lt {s:List UInt8} (h:∀ c ∈ s,jD c):tv s < 10 ^ s.length:=by
 have:=rv_lt (l:=s.reverse) (fun c hc=>h c (by simpa using hc))
 simpa [tv] using this
theorem XE (n:Nat):ZC n ≠ []:=by
 unfold ZC
 split
 ·simp
 ·rename_i h;rw [FH h];simp
theorem dec_head {n:Nat} (h:(ZC n).length > 1):(ZC n).head (XE n) ≠ 48:=by
 have key:∀ n,n ≠ 0 -> ∀ hne:tJ n ≠ [],(tJ n).getLast hne ≠ 48:=by
  intro n
  induction n using Nat.strongRecOn with
  | ind n ih =>
   intro hn
   rw [FH hn]
   intro hne
   by_cases h2:n / 10 = 0
   ·have e:tJ (n / 10) = []:=by rw [h2,NF]
    simp only [e,List.getLast_singleton]
    intro h3
    have:=congrArg UInt8.toNat h3
    rw [wG (by omega)] at this
    simp at this
    omega
   ·have hne2:tJ (n / 10) ≠ []:=by rw [FH h2];simp
    rw [List.getLast_cons hne2]
    exact ih _ (by omega) h2 hne2
 have hn:n ≠ 0:=fun e=>by subst e;simp [ZC] at h
 have e:ZC n = (tJ n).reverse:=by unfold ZC;rw [if_neg hn]
 simp only [e,List.head_reverse]
 exact key n hn _
theorem dec_len_lt {a b:Nat} (h:(ZC a).length < (ZC b).length):a < b:=by
 have h1:=tv_lt (dec_dig a)
 rw [tv_dec] at h1
 have hb1:(ZC b).length > 1:=by
  have:0 < (ZC a).length:=List.length_pos_iff.2 (XE a)
  omega
 have h2:=dec_head hb1
 have h3:=dec_dig b _ (List.head_mem (XE b))
 have hc:(ZC b) = (ZC b).head (XE b) :: (ZC b).tail:=(List.cons_head_tail _).symm
 have h4:tv (ZC b) = tv (ZC b).tail + 10 ^ (ZC b).tail.length * (((ZC b).head (XE b)).toNat - 48):=by
  conv=>lhs;rw [hc]
  rw [tv_cons]
 rw [tv_dec,List.length_tail] at h4
 have h5:1 <= ((ZC b).head (XE b)).toNat - 48:=by
  unfold jD at h3
  have:((ZC b).head (XE b)).toNat ≠ 48:=fun e=>h2 (UInt8.toNat_inj.1 (by simpa using e))
  omega
 have h6:10 ^ (ZC a).length <= 10 ^ ((ZC b).length - 1):=Nat.pow_le_pow_right (by decide) (by omega)
 have h7:=Nat.mul_le_mul_left (10 ^ ((ZC b).length - 1)) h5
 omega
end Go.Off
namespace Go.Off
end Go.Off
namespace Go.Off
theorem rdec_len {n k:Nat} (h:n < 10 ^ k):(tJ n).length <= k:=by
 induction k generalizing n with
 | zero =>
  have:n = 0:=by simpa using h
  subst this;simp [NF]
 | succ k ih =>
  by_cases hn:n = 0
  ·subst hn;simp [NF]
  ·rw [FH hn,oA]
   have:n / 10 < 10 ^ k:=Nat.div_lt_of_lt_mul (by rw [Nat.mul_comm,<- Nat.pow_succ];exact h)
   have:=ih this
   omega
theorem dec_len {n L:Nat} (h:(DB n).length <= L):(ZC n).length <= 10 * L + 1:=by
 have h1:=IE (DB n)
 rw [FC] at h1
 have h2:(4294967296:Nat) ^ (DB n).length <= (10 ^ 10) ^ (DB n).length:=Nat.pow_le_pow_left (by decide) _
 rw [<- Nat.pow_mul] at h2
 have h3:=rdec_len (n:=n) (k:=10 * (DB n).length) (by omega)
 unfold ZC
 split
 ·simp
 ·rw [List.length_reverse];omega
def decZ (z:Int):List UInt8:=if z < 0 then 45 :: ZC z.natAbs else ZC z.natAbs
def textQ (q:Rat):List UInt8:=if q.den = 1 then decZ q.num else decZ q.num ++ 47 :: ZC q.den
theorem decZ_len {z:Int} {L:Nat} (h:(DB z.natAbs).length <= L):(decZ z).length <= 10 * L + 2:=by
 have:=dec_len h
 unfold decZ
 split
 ·rw [oA];omega
 ·omega
end Go.Off
namespace Go.Off
def bF (m:Nat) (f:Nat -> Nat -> Rat):Prop:=∀ c:Nat -> Rat,(∀ i,i < m -> OB m (fun j=>f j i * c j) = 0) -> ∀ j,j < m -> c j = 0
structure LP where
 m:Nat
 n:Nat
 A:Nat -> Nat -> Rat
 b:Nat -> Rat
 c:Nat -> Rat
def bK (m:Nat) (bs:Nat -> Nat) (v:Nat):Prop:=∃ j,j < m /\ bs j = v
structure Dic (p:LP) (bs:Nat -> Nat) (x y:Nat -> Rat):Prop where
 lt:∀ j,j < p.m -> bs j < p.n + p.m
 ind:bF p.m (fun j i=>p.A (bs j) i)
 sol:∀ i,i < p.m -> OB p.m (fun j=>p.A (bs j) i * x j) = p.b i
 pos:∀ j,j < p.m -> 0 <= x j
 pr:∀ j,j < p.m -> OB p.m (fun i=>p.A (bs j) i * y i) = p.c (bs j)
def YF (p:LP) (y:Nat -> Rat) (k:Nat):Rat:=p.c k - OB p.m (fun i=>p.A k i * y i)
structure Piv (p:LP) (bs:Nat -> Nat) (x y:Nat -> Rat) (bs':Nat -> Nat) (k a:Nat) (d:Nat -> Rat):Prop where
 kn:k < p.n
 neg:YF p y k < 0
 least:∀ l,l < k -> 0 <= YF p y l
 dd:∀ i,i < p.m -> OB p.m (fun j=>p.A (bs j) i * d j) = p.A k i
 al:a < p.m
 dpos:0 < d a
 min:∀ j,j < p.m -> 0 < d j -> x a * d j <= x j * d a
 tie:∀ j,j < p.m -> 0 < d j -> x a * d j = x j * d a -> bs a <= bs j
 next:∀ j,j < p.m -> bs' j = if j = a then k else bs j
theorem mP (n:Nat) (f g:Nat -> Rat):OB n (fun i=>f i - g i) = OB n f - OB n g:=by
 have:=TF n f g (-1)
 rw [dB (g:=fun i=>f i + g i * (-1)) (fun i _=>by grind),this]
 grind
theorem XM (n:Nat) (f:Nat -> Rat) (q:Rat):OB n (fun i=>q * f i) = q * OB n f:=by
 rw [dB (g:=fun i=>f i * q) (fun i _=>Rat.mul_comm _ _),AE,Rat.mul_comm]
theorem bF.inj {m:Nat} {A:Nat -> Nat -> Rat} {bs:Nat -> Nat} (h:bF m (fun j i=>A (bs j) i)) {i j:Nat} (hi:i < m) (hj:j < m) (e:bs i = bs j):i = j:=by
 refine Classical.byContradiction (fun hne=>?_)
 have:=h (fun l=>(if i = l then 1 else 0) + (if j = l then -1 else 0)) (fun r _=>?_) i hi
 ·rw [if_pos rfl,if_neg (by omega)] at this
  grind
 ·have e1:∀ l,l < m -> A (bs l) r * ((if i = l then 1 else 0) + (if j = l then -1 else 0)) = (if i = l then A (bs l) r else 0) + (if j = l then -(A (bs l) r) else 0):=fun l _=>by
   split <;> split <;> grind
  rw [dB e1,cM,WC,WC,if_pos hi,if_pos hj,e]
  grind
def GD (m:Nat) (bs:Nat -> Nat) (x:Nat -> Rat) (v:Nat):Rat:=OB m (fun j=>if bs j = v then x j else 0)
theorem xH {m N:Nat} {bs:Nat -> Nat} (h:∀ j,j < m -> bs j < N) (x g:Nat -> Rat):OB N (fun v=>g v * GD m bs x v) = OB m (fun j=>g (bs j) * x j):=by
 have e1:∀ v,v < N -> g v * GD m bs x v = OB m (fun j=>if bs j = v then g v * x j else 0):=fun v _=>by
  unfold GD
  rw [<- XM]
  refine dB (fun j _=>?_)
  split <;> simp
 rw [dB e1,oH]
 refine dB (fun j hj=>?_)
 rw [WC N (bs j) (fun v=>g v * x j),if_pos (h j hj)]
theorem TO {m:Nat} {bs:Nat -> Nat} (hi:∀ i j,i < m -> j < m -> bs i = bs j -> i = j) (x:Nat -> Rat) {j:Nat} (hj:j < m):GD m bs x (bs j) = x j:=by
 unfold GD
 rw [dB (g:=fun l=>if j = l then x l else 0) (fun l hl=>?_),WC,if_pos hj]
 by_cases e:j = l
 ·rw [if_pos e,if_pos (by rw [e])]
 ·rw [if_neg e,if_neg (fun h=>e (hi l j hl hj h).symm)]
theorem bG {m:Nat} {bs:Nat -> Nat} (x:Nat -> Rat) {v:Nat} (h:¬ bK m bs v):GD m bs x v = 0:=by
 unfold GD
 exact zF (fun j hj=>if_neg (fun e=>h ⟨j,hj,e⟩))
theorem bF.uniq {m:Nat} {f:Nat -> Nat -> Rat} {b x y:Nat -> Rat} (h:bF m f) (hx:∀ i,i < m -> OB m (fun j=>f j i * x j) = b i) (hy:∀ i,i < m -> OB m (fun j=>f j i * y j) = b i):∀ j,j < m -> x j = y j:=by
 intro j hj
 have:=h (fun l=>x l - y l) (fun i hi=>?_) j hj
 ·grind
 ·rw [dB (g:=fun j=>f j i * x j - f j i * y j) (fun j _=>by grind),mP,hx i hi,hy i hi]
  grind
theorem Dic.inj {p:LP} {bs:Nat -> Nat} {x y:Nat -> Rat} (h:Dic p bs x y):∀ i j,i < p.m -> j < p.m -> bs i = bs j -> i = j:=fun i j hi hj e=>h.ind.inj hi hj e
theorem full_same {p:LP} {bs bs':Nat -> Nat} {x y x' y':Nat -> Rat} (h:Dic p bs x y) (h':Dic p bs' x' y') (hs:∀ v,bK p.m bs' v -> bK p.m bs v) (v:Nat):GD p.m bs x v = GD p.m bs' x' v:=by
 have e1:∀ w,GD p.m bs (fun j=>GD p.m bs' x' (bs j)) w = GD p.m bs' x' w:=fun w=>by
  by_cases hw:bK p.m bs w
  ·obtain ⟨j,hj,rfl⟩:=hw
   exact TO h.inj _ hj
  ·rw [bG _ hw,bG _ (fun h2=>hw (hs w h2))]
 have e2:∀ i,i < p.m -> OB p.m (fun j=>p.A (bs j) i * GD p.m bs' x' (bs j)) = p.b i:=fun i hi=>by
  rw [<- xH h.lt (fun j=>GD p.m bs' x' (bs j)) (fun v=>p.A v i),dB (fun v _=>by rw [e1 v]),xH h'.lt,h'.sol i hi]
 have e3:=h.ind.uniq h.sol e2
 rw [<- e1 v]
 unfold GD
 exact dB (fun j hj=>by rw [e3 j hj];rfl)
theorem EK {m a:Nat} (ha:a < m) (f c:Nat -> Rat) (g:Rat):OB m (fun j=>(if j = a then g else f j) * c j) = OB m (fun j=>f j * (if j = a then 0 else c j)) + g * c a:=by
 have e:∀ j,j < m -> (if j = a then g else f j) * c j = f j * (if j = a then 0 else c j) + (if a = j then g * c j else 0):=fun j _=>by
  by_cases h:j = a
  ·subst h;simp only [if_true];grind
  ·rw [if_neg h,if_neg h,if_neg (fun h2=>h h2.symm)];grind
 rw [dB e,cM,WC,if_pos ha]
def UG (x d:Nat -> Rat) (a j:Nat):Rat:=if j = a then x a * (d a)⁻¹ else x j - x a * (d a)⁻¹ * d j
theorem Piv.indep {p:LP} {bs bs':Nat -> Nat} {x y d:Nat -> Rat} {k a:Nat} (h:Dic p bs x y) (hp:Piv p bs x y bs' k a d):bF p.m (fun j i=>p.A (bs' j) i):=by
 intro c hc
 have e:∀ i,i < p.m -> OB p.m (fun j=>p.A (bs j) i * ((if j = a then 0 else c j) + d j * c a)) = 0:=fun i hi=>by
  rw [<- hc i hi,dB (g:=fun j=>p.A (bs j) i * (if j = a then 0 else c j) + (p.A (bs j) i * d j) * c a) (fun j _=>by grind),TF,hp.dd i hi,<- EK hp.al]
  refine dB (fun j hj=>?_)
  show _ = p.A (bs' j) i * c j
  rw [hp.next j hj]
  split <;> rfl
 have hz:=h.ind _ e
 have ha:=hz a hp.al
 rw [if_pos rfl,Rat.zero_add] at ha
 have hca:c a = 0:=by
  rcases Rat.mul_eq_zero.1 ha with h1 | h1
  ·have:=hp.dpos;rw [h1] at this;exact absurd this (by decide)
  ·exact h1
 intro j hj
 by_cases hja:j = a
 ·rw [hja];exact hca
 ·have:=hz j hj
  rw [if_neg hja,hca] at this
  grind
theorem inv_pos {q:Rat} (h:0 < q):0 < q⁻¹:=by
 have h1:q * q⁻¹ = 1:=Rat.mul_inv_cancel _ (fun e=>by rw [e] at h;exact absurd h (by decide))
 refine Classical.byContradiction (fun hn=>?_)
 have h2:=Rat.mul_nonneg (Rat.le_of_lt h) (show 0 <= -(q⁻¹) by have:=Rat.not_lt.1 hn;grind)
 grind
theorem Piv.x {p:LP} {bs bs':Nat -> Nat} {x y d:Nat -> Rat} {k a:Nat} (h:Dic p bs x y) (hp:Piv p bs x y bs' k a d):∀ i,i < p.m -> OB p.m (fun j=>p.A (bs' j) i * UG x d a j) = p.b i:=by
 intro i hi
 have hda:d a * (d a)⁻¹ = 1:=Rat.mul_inv_cancel _ (fun e=>by have:=hp.dpos;rw [e] at this;exact absurd this (by decide))
 have e1:∀ j,j < p.m -> p.A (bs' j) i * UG x d a j = (if j = a then p.A k i else p.A (bs j) i) * UG x d a j:=fun j hj=>by
  rw [hp.next j hj];split <;> rfl
 have e2:∀ j,j < p.m -> p.A (bs j) i * (if j = a then 0 else UG x d a j) = p.A (bs j) i * x j + p.A (bs j) i * d j * (-(x a * (d a)⁻¹)):=fun j _=>by
  unfold UG
  by_cases e:j = a
  ·subst e;rw [if_pos rfl];grind
  ·rw [if_neg e,if_neg e];grind
 rw [dB e1,EK hp.al,dB e2,TF,h.sol i hi,hp.dd i hi]
 unfold UG
 rw [if_pos rfl]
 grind
theorem Piv.pos {p:LP} {bs bs':Nat -> Nat} {x y d:Nat -> Rat} {k a:Nat} (h:Dic p bs x y) (hp:Piv p bs x y bs' k a d):∀ j,j < p.m -> 0 <= UG x d a j:=by
 intro j hj
 have hi:=inv_pos hp.dpos
 have hda:d a * (d a)⁻¹ = 1:=Rat.mul_inv_cancel _ (fun e=>by have:=hp.dpos;rw [e] at this;exact absurd this (by decide))
 have hth:0 <= x a * (d a)⁻¹:=Rat.mul_nonneg (h.pos a hp.al) (Rat.le_of_lt hi)
 unfold UG
 by_cases e:j = a
 ·rw [if_pos e];exact hth
 ·rw [if_neg e]
  by_cases hd:0 < d j
  ·have h1:=hp.min j hj hd
   have h2:=Rat.mul_le_mul_of_nonneg_right h1 (Rat.le_of_lt hi)
   have h3:x j * d a * (d a)⁻¹ = x j:=by rw [Rat.mul_assoc,hda,Rat.mul_one]
   have h4:x a * d j * (d a)⁻¹ = x a * (d a)⁻¹ * d j:=by grind
   rw [h3,h4] at h2
   grind
  ·have h1:0 <= -(d j):=by have:=Rat.not_lt.1 hd;grind
   have h2:=Rat.mul_nonneg hth h1
   have h3:=h.pos j hj
   grind
def VI (p:LP) (bs:Nat -> Nat) (x:Nat -> Rat):Rat:=OB p.m (fun j=>p.c (bs j) * x j)
theorem price_d {p:LP} {bs:Nat -> Nat} {y d:Nat -> Rat} {k:Nat} (hy:∀ j,j < p.m -> OB p.m (fun i=>p.A (bs j) i * y i) = p.c (bs j)) (hd:∀ i,i < p.m -> OB p.m (fun j=>p.A (bs j) i * d j) = p.A k i) :
  OB p.m (fun j=>p.c (bs j) * d j) = OB p.m (fun i=>p.A k i * y i):=by
 have e1:∀ j,j < p.m -> p.c (bs j) * d j = OB p.m (fun i=>p.A (bs j) i * d j * y i):=fun j hj=>by
  rw [<- hy j hj,<- AE]
  exact dB (fun i _=>by grind)
 rw [dB e1,oH]
 refine dB (fun i hi=>?_)
 rw [<- hd i hi,<- AE]
theorem Piv.cost {p:LP} {bs bs':Nat -> Nat} {x y d:Nat -> Rat} {k a:Nat} (h:Dic p bs x y) (hp:Piv p bs x y bs' k a d):VI p bs' (UG x d a) = VI p bs x + x a * (d a)⁻¹ * YF p y k:=by
 have hda:d a * (d a)⁻¹ = 1:=Rat.mul_inv_cancel _ (fun e=>by have:=hp.dpos;rw [e] at this;exact absurd this (by decide))
 unfold VI YF
 have e1:∀ j,j < p.m -> p.c (bs' j) * UG x d a j = (if j = a then p.c k else p.c (bs j)) * UG x d a j:=fun j hj=>by
  rw [hp.next j hj];split <;> rfl
 have e2:∀ j,j < p.m -> p.c (bs j) * (if j = a then 0 else UG x d a j) = p.c (bs j) * x j + p.c (bs j) * d j * (-(x a * (d a)⁻¹)):=fun j _=>by
  unfold UG
  by_cases e:j = a
  ·subst e;rw [if_pos rfl];grind
  ·rw [if_neg e,if_neg e];grind
 rw [dB e1,EK hp.al,dB e2,TF,price_d h.pr hp.dd]
 unfold UG
 rw [if_pos rfl]
 grind
structure Trace (p:LP) (T:Nat) (bs:Nat -> Nat -> Nat) (x y:Nat -> Nat -> Rat) (k a:Nat -> Nat) (d:Nat -> Nat -> Rat):Prop where
 dic:∀ t,t <= T -> Dic p (bs t) (x t) (y t)
 piv:∀ t,t < T -> Piv p (bs t) (x t) (y t) (bs (t + 1)) (k t) (a t) (d t)
variable {p:LP} {T:Nat} {bs:Nat -> Nat -> Nat} {x y:Nat -> Nat -> Rat} {k a:Nat -> Nat} {d:Nat -> Nat -> Rat}
theorem Trace.next (h:Trace p T bs x y k a d) {t:Nat} (ht:t < T):∀ j,j < p.m -> x (t + 1) j = UG (x t) (d t) (a t) j :=
 (h.dic (t + 1) ht).ind.uniq (h.dic (t + 1) ht).sol ((h.piv t ht).x (h.dic t (by omega)))
theorem Trace.cost (h:Trace p T bs x y k a d) {t:Nat} (ht:t < T):VI p (bs (t + 1)) (x (t + 1)) = VI p (bs t) (x t) + x t (a t) * (d t (a t))⁻¹ * YF p (y t) (k t):=by
 rw [<- (h.piv t ht).cost (h.dic t (by omega))]
 unfold VI
 exact dB (fun j hj=>by rw [h.next ht j hj])
theorem Trace.theta (h:Trace p T bs x y k a d) {t:Nat} (ht:t < T):0 <= x t (a t) * (d t (a t))⁻¹ :=
 Rat.mul_nonneg ((h.dic t (by omega)).pos _ (h.piv t ht).al) (Rat.le_of_lt (inv_pos (h.piv t ht).dpos))
theorem Trace.down (h:Trace p T bs x y k a d) {t:Nat} (ht:t < T):VI p (bs (t + 1)) (x (t + 1)) <= VI p (bs t) (x t):=by
 rw [h.cost ht]
 have h1:=h.theta ht
 have h2:0 <= -(YF p (y t) (k t)):=by have:=(h.piv t ht).neg;grind
 have:=Rat.mul_nonneg h1 h2
 grind
theorem Trace.downs (h:Trace p T bs x y k a d) {s t:Nat} (hs:s <= t) (ht:t <= T):VI p (bs t) (x t) <= VI p (bs s) (x s):=by
 induction t with
 | zero=>obtain rfl:s = 0:=by omega
         exact Rat.le_refl
 | succ t ih =>
  by_cases e:s = t + 1
  ·rw [e];exact Rat.le_refl
  ·exact Rat.le_trans (h.down (by omega)) (ih (by omega) (by omega))
theorem Dic.cost {p:LP} {bs:Nat -> Nat} {x y:Nat -> Rat} (h:Dic p bs x y):VI p bs x = OB (p.n + p.m) (fun v=>p.c v * GD p.m bs x v):=(xH h.lt x p.c).symm
theorem Piv.inB {p:LP} {bs bs':Nat -> Nat} {x y d:Nat -> Rat} {k a:Nat} (hp:Piv p bs x y bs' k a d) {v:Nat}:bK p.m bs' v -> v = k \/ bK p.m bs v:=by
 rintro ⟨j,hj,rfl⟩
 rw [hp.next j hj]
 split
 ·exact .inl rfl
 ·exact .inr ⟨j,hj,rfl⟩
theorem Piv.outB {p:LP} {bs bs':Nat -> Nat} {x y d:Nat -> Rat} {k a:Nat} (hp:Piv p bs x y bs' k a d) {v:Nat}:bK p.m bs v -> v = bs a \/ bK p.m bs' v:=by
 rintro ⟨j,hj,rfl⟩
 by_cases e:j = a
 ·exact .inl (by rw [e])
 ·exact .inr ⟨j,hj,by rw [hp.next j hj,if_neg e]⟩
theorem Dic.red_zero {p:LP} {bs:Nat -> Nat} {x y:Nat -> Rat} (h:Dic p bs x y) {v:Nat} (hv:bK p.m bs v):YF p y v = 0:=by
 obtain ⟨j,hj,rfl⟩:=hv
 unfold YF
 rw [h.pr j hj]
 grind
theorem Trace.enters (h:Trace p T bs x y k a d) {v s:Nat}:∀ t,s <= t -> t <= T -> ¬ bK p.m (bs s) v -> bK p.m (bs t) v -> ∃ u,s <= u /\ u < t /\ k u = v:=by
 intro t
 induction t with
 | zero=>intro hs _ h1 h2;obtain rfl:s = 0:=by omega
         exact absurd h2 h1
 | succ t ih =>
  intro hs ht h1 h2
  by_cases e:s = t + 1
  ·rw [e] at h1;exact absurd h2 h1
  ·rcases (h.piv t (by omega)).inB h2 with hv | hv
   ·exact ⟨t,by omega,by omega,hv.symm⟩
   ·obtain ⟨u,h3,h4,h5⟩:=ih (by omega) (by omega) h1 hv
    exact ⟨u,h3,by omega,h5⟩
theorem Trace.leaves (h:Trace p T bs x y k a d) {v s:Nat}:∀ t,s <= t -> t <= T -> bK p.m (bs s) v -> ¬ bK p.m (bs t) v -> ∃ u,s <= u /\ u < t /\ bs u (a u) = v:=by
 intro t
 induction t with
 | zero=>intro hs _ h1 h2;obtain rfl:s = 0:=by omega
         exact absurd h1 h2
 | succ t ih =>
  intro hs ht h1 h2
  by_cases e:s = t + 1
  ·rw [e] at h1;exact absurd h1 h2
  ·by_cases hv:bK p.m (bs t) v
   ·rcases (h.piv t (by omega)).outB hv with hv | hv
    ·exact ⟨t,by omega,by omega,hv.symm⟩
    ·exact absurd hv h2
   ·obtain ⟨u,h3,h4,h5⟩:=ih (by omega) (by omega) h1 hv
    exact ⟨u,h3,by omega,h5⟩
theorem max_of (k:Nat -> Nat) (s:Nat):∀ t,s < t -> ∃ u,s <= u /\ u < t /\ ∀ r,s <= r -> r < t -> k r <= k u:=by
 intro t
 induction t with
 | zero=>intro h;omega
 | succ t ih =>
  intro h
  by_cases e:s = t
  ·exact ⟨t,by omega,by omega,fun r h1 h2=>by rw [show r = t by omega];exact EA _⟩
  ·obtain ⟨u,h1,h2,h3⟩:=ih (by omega)
   by_cases hk:k u <= k t
   ·refine ⟨t,by omega,by omega,fun r h4 h5=>?_⟩
    by_cases e:r = t
    ·rw [e];exact EA _
    ·have:=h3 r h4 (by omega);omega
   ·refine ⟨u,h1,by omega,fun r h4 h5=>?_⟩
    by_cases e:r = t
    ·rw [e];omega
    ·exact h3 r h4 (by omega)
theorem Trace.no_cycle (h:Trace p T bs x y k a d) {s t:Nat} (hst:s < t) (ht:t <= T):¬ (∀ v,bK p.m (bs s) v ↔ bK p.m (bs t) v):=by
 intro hsame
 have hDs:=h.dic s (by omega)
 have hDt:=h.dic t ht
 have hc:VI p (bs s) (x s) = VI p (bs t) (x t):=by
  rw [hDs.cost,hDt.cost]
  exact dB (fun v _=>by rw [full_same hDs hDt (fun v hv=>(hsame v).2 hv) v])
 have hth:∀ r,s <= r -> r < t -> x r (a r) = 0:=fun r h1 h2=>by
  have e1:=h.downs h1 (show r <= T by omega)
  have e2:=h.downs (show r + 1 <= t by omega) ht
  have e3:=h.cost (show r < T by omega)
  have e4:=h.theta (show r < T by omega)
  have e5:=(h.piv r (by omega)).neg
  have e6:x r (a r) * (d r (a r))⁻¹ * YF p (y r) (k r) = 0:=by
   have e7:x r (a r) * (d r (a r))⁻¹ * YF p (y r) (k r) <= 0:=by
    have:=Rat.mul_nonneg e4 (show 0 <= -(YF p (y r) (k r)) by grind)
    grind
   rw [<- hc] at e2
   generalize x r (a r) * (d r (a r))⁻¹ * YF p (y r) (k r) = z at *
   grind
  rcases Rat.mul_eq_zero.1 e6 with e | e
  ·rcases Rat.mul_eq_zero.1 e with e | e
   ·exact e
   ·have:=inv_pos (h.piv r (by omega)).dpos
    rw [e] at this
    exact absurd this (by decide)
  ·rw [e] at e5;exact absurd e5 (by decide)
 have hfull:∀ r,s <= r -> r <= t -> ∀ v,GD p.m (bs r) (x r) v = GD p.m (bs s) (x s) v:=by
  intro r
  induction r with
  | zero=>intro h1 _ v;obtain rfl:s = 0:=by omega
          rfl
  | succ r ih =>
   intro h1 h2 v
   by_cases e:s = r + 1
   ·rw [e]
   ·rw [<- ih (by omega) (by omega) v]
    have hr:r < T:=by omega
    have h0:=hth r (by omega) (by omega)
    have hx:∀ j,j < p.m -> x (r + 1) j = x r j:=fun j hj=>by
     rw [h.next hr j hj]
     unfold UG
     rw [h0]
     split
     ·rename_i e2;rw [e2,h0,Rat.zero_mul]
     ·rw [Rat.zero_mul,Rat.zero_mul];grind
    unfold GD
    refine dB (fun j hj=>?_)
    rw [hx j hj,(h.piv r hr).next j hj]
    by_cases e2:j = a r
    ·rw [if_pos e2,e2,h0];split <;> split <;> rfl
    ·rw [if_neg e2]
 obtain ⟨u,hu1,hu2,humax⟩:=max_of k s t hst
 have huT:u < T:=by omega
 have hPu:=h.piv u huT
 have hDu:=h.dic u (by omega)
 have hkB:bK p.m (bs (u + 1)) (k u):=⟨a u,hPu.al,by rw [hPu.next _ hPu.al,if_pos rfl]⟩
 have hkN:¬ bK p.m (bs u) (k u):=fun hin=>by
  have:=hDu.red_zero hin
  have:=hPu.neg
  grind
 have hleave:∃ r,s <= r /\ r < t /\ bs r (a r) = k u:=by
  by_cases hin:bK p.m (bs t) (k u)
  ·obtain ⟨r,h1,h2,h3⟩:=h.leaves u (by omega) (by omega) ((hsame _).2 hin) hkN
   exact ⟨r,h1,by omega,h3⟩
  ·obtain ⟨r,h1,h2,h3⟩:=h.leaves t (by omega) ht hkB hin
   exact ⟨r,by omega,h2,h3⟩
 obtain ⟨r,hr1,hr2,hr3⟩:=hleave
 have hrT:r < T:=by omega
 have hPr:=h.piv r hrT
 have hDr:=h.dic r (by omega)
 have hk1:=humax r hr1 hr2
 have hkr:k r < k u:=by
  rcases Nat.lt_or_eq_of_le hk1 with h1 | h1
  ·exact h1
  ·exfalso
   have:bK p.m (bs r) (k r):=⟨a r,hPr.al,by rw [hr3,h1]⟩
   have h2:=hDr.red_zero this
   have h3:=hPr.neg
   grind
 have hsum:YF p (y u) (k r) - OB p.m (fun j=>YF p (y u) (bs r j) * d r j) = YF p (y r) (k r):=by
  have e1:∀ j,j < p.m -> YF p (y u) (bs r j) * d r j = p.c (bs r j) * d r j - OB p.m (fun i=>p.A (bs r j) i * d r j * y u i):=fun j _=>by
   unfold YF
   have:OB p.m (fun i=>p.A (bs r j) i * d r j * y u i) = OB p.m (fun i=>p.A (bs r j) i * y u i) * d r j:=by
    rw [<- AE];exact dB (fun i _=>by grind)
   rw [this];grind
  have e2:OB p.m (fun j=>OB p.m (fun i=>p.A (bs r j) i * d r j * y u i)) = OB p.m (fun i=>p.A (k r) i * y u i):=by
   rw [oH]
   refine dB (fun i hi=>?_)
   rw [AE,hPr.dd i hi]
  rw [dB e1,mP,e2,price_d hDr.pr hPr.dd]
  unfold YF
  grind
 have hneg:=hPr.neg
 have hge:=hPu.least (k r) hkr
 have hex:∃ j,j < p.m /\ 0 < YF p (y u) (bs r j) * d r j:=by
  refine Classical.byContradiction (fun hno=>?_)
  have hle:∀ m,m <= p.m -> OB m (fun j=>YF p (y u) (bs r j) * d r j) <= 0:=by
   intro m
   induction m with
   | zero=>intro _;exact Rat.le_refl
   | succ m ih =>
    intro hm
    have h1:=ih (by omega)
    have h2:YF p (y u) (bs r m) * d r m <= 0:=Rat.not_lt.1 (fun h3=>hno ⟨m,by omega,h3⟩)
    show OB m _ + YF p (y u) (bs r m) * d r m <= 0
    grind
  have:=hle p.m (EA _)
  grind
 obtain ⟨j,hj,hpos⟩:=hex
 have hrd:YF p (y u) (bs r j) ≠ 0:=fun e=>by rw [e,Rat.zero_mul] at hpos;exact absurd hpos (by decide)
 have hgu:¬ bK p.m (bs u) (bs r j):=fun hin=>hrd (hDu.red_zero hin)
 have hgr:bK p.m (bs r) (bs r j):=⟨j,hj,rfl⟩
 have hent:∃ w,s <= w /\ w < t /\ k w = bs r j:=by
  by_cases hs2:bK p.m (bs s) (bs r j)
  ·obtain ⟨w,h1,h2,h3⟩:=h.enters t (by omega) ht hgu ((hsame _).1 hs2)
   exact ⟨w,by omega,h2,h3⟩
  ·obtain ⟨w,h1,h2,h3⟩:=h.enters r (by omega) (by omega) hs2 hgr
   exact ⟨w,h1,by omega,h3⟩
 obtain ⟨w,hw1,hw2,hw3⟩:=hent
 have hle:=humax w hw1 hw2
 rw [hw3] at hle
 by_cases hje:j = a r
 ·rw [hje,hr3] at hpos
  have h1:=hPu.neg
  have h2:=hPr.dpos
  have h3:=Rat.mul_nonneg (show 0 <= -(YF p (y u) (k u)) by grind) (Rat.le_of_lt h2)
  grind
 ·have hlt:bs r j < k u:=by
   rcases Nat.lt_or_eq_of_le hle with h1 | h1
   ·exact h1
   ·exact absurd (hDr.inj j (a r) hj hPr.al (by rw [h1,hr3])) hje
  have h1:=hPu.least _ hlt
  have hdj:0 < d r j:=by
   refine Classical.byContradiction (fun hn=>?_)
   have h2:=Rat.mul_nonneg h1 (show 0 <= -(d r j) by have:=Rat.not_lt.1 hn;grind)
   grind
  have hx0:x r j = 0:=by
   rw [<- TO hDr.inj (x r) hj,hfull r hr1 (by omega),<- hfull u hu1 (by omega)]
   exact bG _ hgu
  have:=hPr.tie j hj hdj (by rw [hth r hr1 hr2,hx0,Rat.zero_mul,Rat.zero_mul])
  omega
end Go.Off
namespace Go.Off
def dM:Nat -> Nat -> List Nat
 | 0,0=>[0]
 | 0,_ + 1=>[]
 | N + 1,0=>dM N 0
 | N + 1,m + 1=>dM N (m + 1) ++ (dM N m).map (· + 2 ^ N)
def jR:Nat -> Nat -> Nat
 | 0,0=>1
 | 0,_ + 1=>0
 | N + 1,0=>jR N 0
 | N + 1,m + 1=>jR N (m + 1) + jR N m
theorem HI:∀ N m,(dM N m).length = jR N m
 | 0,0=>rfl
 | 0,_ + 1=>rfl
 | N + 1,0=>HI N 0
 | N + 1,m + 1=>by
  show (dM N (m + 1) ++ (dM N m).map (· + 2 ^ N)).length = jR N (m + 1) + jR N m
  rw [sA,eA,HI,HI]
def aJ:Nat -> (Nat -> Bool) -> Nat
 | 0,_=>0
 | N + 1,P=>aJ N P + if P N then 2 ^ N else 0
def dI:Nat -> (Nat -> Bool) -> Nat
 | 0,_=>0
 | N + 1,P=>dI N P + if P N then 1 else 0
theorem dR:∀ N P,aJ N P < 2 ^ N
 | 0,_=>Nat.zero_lt_one
 | N + 1,P=>by
  have:=dR N P
  show aJ N P + (if P N then 2 ^ N else 0) < _
  rw [Nat.pow_succ]
  split <;> omega
theorem CN:∀ N P Q,aJ N P = aJ N Q -> ∀ v,v < N -> P v = Q v
 | 0,_,_,_,v,h=>by omega
 | N + 1,P,Q,h,v,hv=>by
  have h1:=dR N P
  have h2:=dR N Q
  change aJ N P + (if P N then 2 ^ N else 0) = aJ N Q + (if Q N then 2 ^ N else 0) at h
  have h3:P N = Q N:=by
   cases hp:P N <;> cases hq:Q N <;> rw [hp,hq] at h <;> simp at h ⊢ <;> omega
  by_cases e:v = N
  ·rw [e];exact h3
  ·rw [h3] at h
   exact CN N P Q (by omega) v (by omega)
theorem BN:∀ N P,aJ N P ∈ dM N (dI N P)
 | 0,_=>by simp [aJ,dI,dM]
 | N + 1,P=>by
  have ih:=BN N P
  show aJ N P + (if P N then 2 ^ N else 0) ∈ dM (N + 1) (dI N P + if P N then 1 else 0)
  cases P N with
  | true =>
   rw [if_pos rfl,if_pos rfl]
   exact List.mem_append_right _ (yA.2 ⟨_,ih,rfl⟩)
  | false =>
   rw [if_neg (by simp),if_neg (by simp),Nat.add_zero,Nat.add_zero]
   generalize aJ N P = c at *
   cases hm:dI N P with
   | zero=>rw [hm] at ih;exact ih
   | succ m=>rw [hm] at ih;exact List.mem_append_left _ ih
theorem pigeon:∀ (T:Nat) (L:List Nat) (g:Nat -> Nat),(∀ t,t < T -> g t ∈ L) -> (∀ s t,s < t -> t < T -> g s ≠ g t) -> T <= L.length:=by
 intro T
 induction T with
 | zero=>intro L g _ _;exact fN _
 | succ T ih =>
  intro L g h1 h2
  have:=ih (L.erase (g T)) g (fun t ht=>(List.mem_erase_of_ne (h2 t T ht (by omega))).2 (h1 t (by omega))) (fun s t h3 h4=>h2 s t h3 (by omega))
  rw [List.length_erase_of_mem (h1 T (by omega))] at this
  have:=List.length_pos_of_mem (h1 T (by omega))
  omega
def XJ (m:Nat) (bs:Nat -> Nat) (v:Nat):Bool:=(List.range m).any fun j=>bs j == v
theorem EG {m:Nat} {bs:Nat -> Nat} {v:Nat}:XJ m bs v = SA ↔ bK m bs v:=by
 unfold XJ bK
 rw [List.any_eq_true]
 constructor
 ·rintro ⟨j,hj,e⟩;exact ⟨j,zA.1 hj,by simpa using e⟩
 ·rintro ⟨j,hj,e⟩;exact ⟨j,zA.2 hj,by simpa using e⟩
theorem cnt_sum (P:Nat -> Bool):∀ N,((dI N P:Nat):Rat) = OB N (fun v=>if P v then 1 else 0)
 | 0=>rfl
 | N + 1=>by
  show ((dI N P + (if P N then 1 else 0):Nat):Rat) = OB N _ + (if P N then 1 else 0)
  rw [Rat.natCast_add,cnt_sum P N]
  cases P N <;> rfl
theorem sumR_one:∀ m:Nat,OB m (fun _=>1) = (m:Rat)
 | 0=>rfl
 | m + 1=>by show OB m _ + 1 = _;rw [sumR_one m,Rat.natCast_add];rfl
theorem YS {m N:Nat} {bs:Nat -> Nat} (h:∀ j,j < m -> bs j < N) (hi:∀ i j,i < m -> j < m -> bs i = bs j -> i = j):dI N (XJ m bs) = m:=by
 have e:∀ v,v < N -> (if XJ m bs v then (1:Rat) else 0) = 1 * GD m bs (fun _=>1) v:=fun v _=>by
  rw [Rat.one_mul]
  by_cases hv:bK m bs v
  ·rw [if_pos (EG.2 hv)]
   obtain ⟨j,hj,rfl⟩:=hv
   exact (TO hi (fun _=>1) hj).symm
  ·rw [if_neg (fun h=>hv (EG.1 h)),bG _ hv]
 have h1:((dI N (XJ m bs):Nat):Rat) = (m:Rat):=by
  rw [cnt_sum,dB e,xH h (fun _=>1) (fun _=>1),<- sumR_one]
  exact dB (fun _ _=>Rat.one_mul _)
 exact_mod_cast h1
theorem Trace.short {p:LP} {T:Nat} {bs:Nat -> Nat -> Nat} {x y:Nat -> Nat -> Rat} {k a:Nat -> Nat} {d:Nat -> Nat -> Rat} (h:Trace p T bs x y k a d):T + 1 <= jR (p.n + p.m) p.m:=by
 rw [<- HI]
 refine pigeon (T + 1) _ (fun t=>aJ (p.n + p.m) (XJ p.m (bs t))) (fun t ht=>?_) (fun s t hst ht he=>?_)
 ·have hD:=h.dic t (by omega)
  have:=BN (p.n + p.m) (XJ p.m (bs t))
  rwa [YS hD.lt hD.inj] at this
 ·refine h.no_cycle hst (show t <= T by omega) (fun v=>?_)
  have hDs:=h.dic s (by omega)
  have hDt:=h.dic t (by omega)
  by_cases hv:v < p.n + p.m
  ·have:=CN _ _ _ he v hv
   rw [<- EG,<- EG,this]
  ·constructor
   ·rintro ⟨j,hj,rfl⟩;exact absurd (hDs.lt j hj) hv
   ·rintro ⟨j,hj,rfl⟩;exact absurd (hDt.lt j hj) hv
theorem ch_simplex:∀ m,m <= 4 -> ∀ n,n <= 8 -> jR (n + m) m <= 495:=by decide +kernel
theorem ch_price:∀ m,m <= 6 -> ∀ n,n <= 14 -> jR (n + m) m <= 38760:=by decide +kernel
end Go.Off
namespace Go.Off
def IndepN (n k:Nat) (f:Nat -> Nat -> Rat):Prop:=∀ c:Nat -> Rat,(∀ i,i < n -> OB k (fun j=>f j i * c j) = 0) -> ∀ j,j < k -> c j = 0
theorem Lin.mono {k m:Nat} {T:(Nat -> Rat) -> Prop} (h:Lin k T) (hk:k <= m):Lin m T:=⟨h.zero,h.comb,fun u w he hu=>h.congr u w (fun c hc=>he c (by omega)) hu⟩
theorem yG.mono {n k m:Nat} {f:Nat -> Nat -> Rat} {v:Nat -> Rat} (h:yG n m f v) (hk:k <= m):yG n k f v:=fun T hT hr=>h T (hT.mono hk) hr
theorem spans_k {n m k:Nat} {R:QM} {P:List Nat} (h:RInv n m R P k) {v:Nat -> Rat} (hv:yG n k (eQ R) v):∀ c,c < k -> v c = OB P.length (fun i=>eQ R i c * v (P.getD i 0)):=by
 refine hv (fun v=>∀ c,c < k -> v c = OB P.length (fun i=>eQ R i c * v (P.getD i 0))) ⟨?_,?_,?_⟩ ?_
 ·intro c _
  rw [zF (fun i _=>Rat.mul_zero _)]
 ·intro u w q hu hw c hc
  dsimp only
  rw [hu c hc,hw c hc,<- TF]
  refine dB (fun i _=>?_)
  grind
 ·intro u w he hu c hc
  rw [<- he c hc,hu c hc]
  exact dB (fun i hi=>by rw [he _ (h.lt i hi)])
 ·intro j hj c hc
  have h1:∀ i,i < P.length -> eQ R i c * eQ R j (P.getD i 0) = if j = i then eQ R i c else 0:=fun i hi=>by
   rw [h.one i j hi hj]
   split <;> simp
  rw [dB h1,WC]
  split
  ·rfl
  ·rename_i h2;exact h.nil j c (by omega) hj hc
theorem JK {Q:QM} {n m k:Nat} (h:BI Q n m) (hk:k <= m):(rC Q k).2.length = k ↔ IndepN n k (fun c j=>eQ Q j c):=by
 have hI:=XF h k hk
 constructor
 ·intro hl u hu
  have hz:∀ v,yG n m (eQ Q) v -> OB k (fun c=>v c * u c) = 0:=fun v hv=>by
   refine hv (fun v=>OB k (fun c=>v c * u c) = 0) ⟨?_,?_,?_⟩ (fun i hi=>hu i hi)
   ·exact zF (fun c _=>Rat.zero_mul _)
   ·intro a b q ha hb
    dsimp only
    rw [dB (g:=fun c=>a c * u c + b c * u c * q) (fun c _=>by grind),TF,ha,hb]
    grind
   ·intro a b he ha
    rw [<- ha]
    exact dB (fun c hc=>by rw [he c (by omega)])
  intro j hj
  have hjn:j < n:=by have:=hI.le;omega
  have h1:=hz _ (HT h k hk j hjn)
  have h2:∀ c,c < k -> eQ (rC Q k).1 j c * u c = if j = c then u c else 0:=fun c hc=>by
   have h3:=hI.one c j (by omega) hjn
   rw [hI.id hl c (by omega)] at h3
   rw [h3]
   split <;> simp
  rw [dB h2,WC,if_pos hj] at h1
  exact h1
 ·intro hu
  refine Classical.byContradiction (fun hne=>?_)
  have hlt:(rC Q k).2.length < k:=by have:=hI.len_le;omega
  have hex:∃ c,c < k /\ ¬ c ∈ (rC Q k).2:=by
   refine Classical.byContradiction (fun hno=>?_)
   have:=pigeon k (rC Q k).2 (fun t=>t) (fun t ht=>Classical.byContradiction (fun hn=>hno ⟨t,ht,hn⟩)) (fun s t h1 h2=>by omega)
   omega
  obtain ⟨c0,hc0,hn0⟩:=hex
  generalize hP:(rC Q k).2 = P at *
  generalize hR:(rC Q k).1 = R at *
  have hPl:∀ i,i < P.length -> (fun i=>P.getD i 0) i < k:=hI.lt
  have key:∀ j,j < n -> OB k (fun c=>eQ Q j c * ((if c0 = c then 1 else 0) - GD P.length (fun i=>P.getD i 0) (fun i=>eQ R i c0) c)) = 0:=fun j hj=>by
   have e1:∀ c,c < k -> eQ Q j c * ((if c0 = c then 1 else 0) - GD P.length (fun i=>P.getD i 0) (fun i=>eQ R i c0) c) = (if c0 = c then eQ Q j c else 0) - eQ Q j c * GD P.length (fun i=>P.getD i 0) (fun i=>eQ R i c0) c:=fun c _=>by
    split <;> grind
   rw [dB e1,mP,WC,if_pos hc0,xH hPl]
   have h2:=spans_k hI (by rw [<- hR];exact (red_old h k hk j hj).mono hk) c0 hc0
   rw [h2,dB (g:=fun i=>eQ R i c0 * eQ Q j (P.getD i 0)) (fun i _=>Rat.mul_comm _ _)]
   grind
  have h3:=hu _ key c0 hc0
  rw [if_pos rfl,bG] at h3
  ·grind
  ·rintro ⟨i,hi,e⟩
   have:P.getD i 0 ∈ P:=by rw [bA,aA hi];exact gA hi
   dsimp only at e
   rw [e] at this
   exact hn0 this
def ZM (Q:QM) (n:Nat):Bool:=decide ((rC Q (n + 1)).2.length = n) && (decide (n = 0) || decide ((rC Q (n + 1)).2.getD (n - 1) 0 = n - 1))
theorem sq_ok {Q:QM} {n:Nat} (h:BI Q n (n + 1)):ZM Q n = SA ↔ bF n (fun c j=>eQ Q j c):=by
 have hI:=XF h (n + 1) (EA _)
 unfold ZM
 simp only [JA,Bool.or_eq_true,decide_eq_true_eq]
 constructor
 ·rintro ⟨h1,h2⟩
  rcases h2 with h2 | h2
  ·subst h2;intro u _ j hj;omega
  ·have hid:∀ i,i < n -> (rC Q (n + 1)).2.getD i 0 = i:=fun i hi=>by
    have h3:=hI.ge i (by omega)
    by_cases e:i = n - 1
    ·rw [e];exact h2
    ·have h4:∀ d,∀ i,i + d = n - 1 -> (rC Q (n + 1)).2.getD i 0 + d <= n - 1:=by
      intro d
      induction d with
      | zero=>intro i hi;rw [show i = n - 1 by omega,h2];omega
      | succ d ih =>
       intro i hi
       have:=ih (i + 1) (by omega)
       have:=hI.inc i (i + 1) (by omega) (by omega)
       omega
     have:=h4 (n - 1 - i) i (by omega)
     omega
   intro u hu j hj
   have hz:∀ v,yG n (n + 1) (eQ Q) v -> OB n (fun c=>v c * u c) = 0:=fun v hv=>by
    refine hv (fun v=>OB n (fun c=>v c * u c) = 0) ⟨?_,?_,?_⟩ (fun i hi=>hu i hi)
    ·exact zF (fun c _=>Rat.zero_mul _)
    ·intro a b q ha hb
     dsimp only
     rw [dB (g:=fun c=>a c * u c + b c * u c * q) (fun c _=>by grind),TF,ha,hb]
     grind
    ·intro a b he ha
     rw [<- ha]
     exact dB (fun c hc=>by rw [he c (by omega)])
   have h5:=hz _ (HT h (n + 1) (EA _) j hj)
   have h6:∀ c,c < n -> eQ (rC Q (n + 1)).1 j c * u c = if j = c then u c else 0:=fun c hc=>by
    have h3:=hI.one c j (by omega) hj
    rw [hid c hc] at h3
    rw [h3]
    split <;> simp
   rw [dB h6,WC,if_pos hj] at h5
   exact h5
 ·intro hu
  have h1:(rC Q n).2.length = n:=(JK h (Nat.le_succ _)).2 hu
  have hn:=XF h n (Nat.le_succ _)
  have he:(rC Q (n + 1)).2 = (rC Q n).2:=by
   rw [QE]
   have hc:=yH hn
   have e2:((rC Q n).1,(rC Q n).2) = rC Q n:=rfl
   rw [e2] at hc
   rcases hc with ⟨h2,_⟩ | ⟨i,h2,h3,_⟩
   ·rw [h2]
   ·omega
  rw [he]
  refine ⟨h1,?_⟩
  by_cases h0:n = 0
  ·exact .inl h0
  ·exact .inr (hn.id h1 (n - 1) (by omega))
theorem sq_sol {Q:QM} {n:Nat} (h:BI Q n (n + 1)) (hok:ZM Q n = SA):∀ j,j < n -> OB n (fun c=>eQ Q j c * eQ (rC Q (n + 1)).1 c n) = eQ Q j n:=by
 have hI:=XF h (n + 1) (EA _)
 have hind:=(sq_ok h).1 hok
 have h1:(rC Q n).2.length = n:=(JK h (Nat.le_succ _)).2 hind
 have hn:=XF h n (Nat.le_succ _)
 have he:rC Q (n + 1) = rC Q n:=by
  rw [QE]
  have hc:=yH hn
  have e2:((rC Q n).1,(rC Q n).2) = rC Q n:=rfl
  rw [e2] at hc
  rcases hc with ⟨h2,_⟩ | ⟨i,h2,h3,_⟩
  ·rw [h2]
  ·omega
 intro j hj
 have h2:=uS h j n hj (Nat.lt_succ_self _)
 rw [he,h1] at h2
 rw [he,h2]
 refine dB (fun c hc=>?_)
 rw [hn.id h1 c (by omega)]
 exact Rat.mul_comm _ _
theorem indep_turn {Q T:QM} {n:Nat} (hQ:BI Q n n) (hT:BI T n n) (h:∀ i k,i < n -> k < n -> eQ T k i = eQ Q i k):bF n (fun c j=>eQ T j c) ↔ bF n (fun c j=>eQ Q j c):=by
 have h1:=JK hQ (EA n)
 have h2:=JK hT (EA n)
 have h3:=rank_turned hQ hT h
 have e1:bF n (fun c j=>eQ T j c) ↔ (rC T n).2.length = n:=h2.symm
 have e2:bF n (fun c j=>eQ Q j c) ↔ (rC Q n).2.length = n:=h1.symm
 rw [e1,e2,h3]
theorem bF.congr {m:Nat} {f g:Nat -> Nat -> Rat} (h:bF m f) (he:∀ j i,j < m -> i < m -> f j i = g j i):bF m g:=fun c hc=>h c (fun i hi=>by
 rw [<- hc i hi];exact dB (fun j hj=>by rw [he j i hj hi]))
end Go.Off
namespace Go.Off
theorem tH {α β:Type} (l:List α) (f:α -> β) (i:Nat) (a:α) (b:β) (h:i < l.length):(l.map f).getD i b = f (l.getD i a):=by
 rw [bA,bA,List.getElem?_map,aA h];rfl
theorem getD_range {n i:Nat} (h:i < n):(List.range n).getD i 0 = i:=by
 rw [bA,List.getElem?_range h];rfl
theorem dD {β:Type} (n:Nat) (f:Nat -> β) (i:Nat) (b:β) (h:i < n):((List.range n).map f).getD i b = f i:=by
 rw [tH _ f i 0 b (by rw [List.length_range];exact h),getD_range h]
def lH (Q:QM) (b:List Rat):QM:=(List.range Q.length).map fun i=>Q.getD i [] ++ [b.getD i 0]
def ZH (Q:QM) (b:List Rat):List Rat:=if ZM (lH Q b) Q.length then (rC (lH Q b) (Q.length + 1)).1.map (fun r=>r.getD Q.length 0) else []
theorem PO {Q:QM} {n:Nat} (h:BI Q n n) (b:List Rat):BI (lH Q b) n (n + 1):=by
 unfold lH
 rw [h.1]
 refine ⟨by rw [eA,List.length_range],fun i hi=>?_⟩
 rw [dD n _ i [] hi,sA,h.2 i hi]
 rfl
theorem eQ_aug {Q:QM} {n:Nat} (h:BI Q n n) (b:List Rat) {i c:Nat} (hi:i < n) (hc:c < n):eQ (lH Q b) i c = eQ Q i c:=by
 unfold lH eQ
 rw [h.1,dD n _ i [] hi,bA,List.getElem?_append_left (by rw [h.2 i hi];exact hc),<- bA]
theorem eQ_augn {Q:QM} {n:Nat} (h:BI Q n n) (b:List Rat) {i:Nat} (hi:i < n):eQ (lH Q b) i n = b.getD i 0:=by
 unfold lH eQ
 rw [h.1,dD n _ i [] hi,bA,List.getElem?_append_right (by rw [h.2 i hi];exact EA _),h.2 i hi,Nat.sub_self]
 rfl
theorem sol_ok {Q:QM} {n:Nat} (h:BI Q n n) (b:List Rat):ZM (lH Q b) n = SA ↔ bF n (fun c j=>eQ Q j c):=by
 rw [sq_ok (PO h b)]
 exact ⟨fun hi=>hi.congr (fun j i hj hi=>eQ_aug h b hi hj),fun hi=>hi.congr (fun j i hj hi=>(eQ_aug h b hi hj).symm)⟩
theorem sol_spec {Q:QM} {n:Nat} (h:BI Q n n) (b:List Rat) (hi:bF n (fun c j=>eQ Q j c)) :
  (ZH Q b).length = n /\ ∀ j,j < n -> OB n (fun c=>eQ Q j c * (ZH Q b).getD c 0) = b.getD j 0:=by
 have hok:=(sol_ok h b).2 hi
 have hA:=PO h b
 have hI:=XF hA (n + 1) (EA _)
 have hs:(rC (lH Q b) (n + 1)).1.length = n:=hI.shp.1
 unfold ZH
 rw [h.1,if_pos hok]
 refine ⟨by rw [eA,hs],fun j hj=>?_⟩
 rw [<- eQ_augn h b hj,<- sq_sol hA hok j hj]
 refine dB (fun c hc=>?_)
 rw [eQ_aug h b hj hc,tH (rC (lH Q b) (n + 1)).1 (fun r:List Rat=>r.getD n 0) c [] 0 (by rw [hs];exact hc)]
 rfl
def wH (m i:Nat):List Rat:=(List.range m).map fun j=>if j = i then 1 else 0
def gF (m:Nat) (Q:QM):QM:=(List.range m).map fun k=>(List.range m).map fun j=>eQ Q j k
def LH (a b:List Rat):Rat:=OB (min a.length b.length) fun i=>a.getD i 0 * b.getD i 0
structure SD where
 n:Nat
 m:Nat
 cols:QM
 b:List Rat
structure SD.Wf (S:SD):Prop where
 cl:S.cols.length = S.n
 cm:∀ k,k < S.n -> (S.cols.getD k []).length = S.m
 bl:S.b.length = S.m
def OC (S:SD) (k:Nat):List Rat:=if S.n <= k then wH S.m (k - S.n) else S.cols.getD k []
def WK (S:SD) (bs:List Nat):QM:=bs.map (OC S)
def xL (S:SD) (bs:List Nat):List Rat:=ZH (gF S.m (WK S bs)) S.b
def dL (S:SD) (bs:List Nat) (k:Nat):List Rat:=ZH (gF S.m (WK S bs)) (S.cols.getD k [])
def zD (S:SD) (costs:List Rat) (own:Rat) (k:Nat):Rat:=if S.n <= k then own else costs.getD k 0
def yL (S:SD) (costs:List Rat) (own:Rat) (bs:List Nat):List Rat:=ZH (WK S bs) (bs.map (zD S costs own))
def JH (S:SD) (costs y:List Rat):Option Nat:=(List.range S.n).find? fun k=>decide (costs.getD k 0 < LH y (S.cols.getD k []))
def uE (x d:List Rat) (bs:List Nat):Nat -> Option (Nat × Rat)
 | 0=>QA
 | i + 1 =>
  if d.getD i 0 <= 0 then uE x d bs i else
  match uE x d bs i with
  | none=>PA (i,x.getD i 0 * (d.getD i 0)⁻¹)
  | some (a,q)=>if x.getD i 0 * (d.getD i 0)⁻¹ < q \/ x.getD i 0 * (d.getD i 0)⁻¹ = q /\ bs.getD i 0 < bs.getD a 0 then PA (i,x.getD i 0 * (d.getD i 0)⁻¹) else PA (a,q)
def oK (x d:List Rat) (bs:List Nat):Option Nat:=(uE x d bs x.length).map (·.1)
structure RO where
 err:Bool
 y:List Rat
 k:Option Nat
 d:List Rat
 bs:List Nat
 rem:Nat
inductive SxStep where
 | fin (k:Option Nat) (d:List Rat)
 | go (k a:Nat)
def mE (S:SD) (costs:List Rat) (own:Rat) (bs:List Nat):SxStep :=
 match JH S costs (yL S costs own bs) with
 | none=>.fin QA []
 | some k=>match oK (xL S bs) (dL S bs k) bs with
  | none=>.fin (PA k) (dL S bs k)
  | some a=>.go k a
def tC (S:SD) (costs:List Rat) (own:Rat):Nat -> List Nat -> RO
 | 0,bs=>match mE S costs own bs with
  | .fin k d=>⟨TA,yL S costs own bs,k,d,bs,0⟩
  | .go k _=>⟨SA,[],PA k,[],bs,0⟩
 | r + 1,bs=>match mE S costs own bs with
  | .fin k d=>⟨TA,yL S costs own bs,k,d,bs,r + 1⟩
  | .go k a=>tC S costs own r (bs.set a k)
def BQ (S:SD) (costs:List Rat) (own:Rat):LP:=⟨S.m,S.n,fun v i=>(OC S v).getD i 0,fun i=>S.b.getD i 0,zD S costs own⟩
def HD (bs:List Nat) (j:Nat):Nat:=bs.getD j 0
def lF (l:List Rat) (j:Nat):Rat:=l.getD j 0
structure BOk (S:SD) (bs:List Nat):Prop where
 len:bs.length = S.m
 lt:∀ j,j < S.m -> bs.getD j 0 < S.n + S.m
 ind:bF S.m (fun j i=>(OC S (HD bs j)).getD i 0)
theorem EI (m i:Nat):(wH m i).length = m:=by unfold wH;rw [eA,List.length_range]
theorem jP (m i:Nat) {j:Nat} (h:j < m):(wH m i).getD j 0 = if j = i then 1 else 0:=dD m _ j 0 h
theorem col_len {S:SD} (h:S.Wf) (k:Nat):(OC S k).length = S.m:=by
 unfold OC
 split
 ·exact EI _ _
 ·exact h.cm k (by omega)
theorem shp_sq {S:SD} (h:S.Wf) {bs:List Nat} (hl:bs.length = S.m):BI (WK S bs) S.m S.m:=by
 unfold WK
 refine ⟨by rw [eA,hl],fun i hi=>?_⟩
 rw [tH bs (OC S) i 0 [] (by omega)]
 exact col_len h _
theorem eQ_sq {S:SD} {bs:List Nat} (hl:bs.length = S.m) {j:Nat} (hj:j < S.m) (i:Nat):eQ (WK S bs) j i = (OC S (HD bs j)).getD i 0:=by
 unfold eQ WK
 rw [tH bs (OC S) j 0 [] (by omega)]
 rfl
theorem pH (m:Nat) (Q:QM):BI (gF m Q) m m:=by
 unfold gF
 refine ⟨by rw [eA,List.length_range],fun i hi=>?_⟩
 rw [dD m _ i [] hi,eA,List.length_range]
theorem FM {m:Nat} {Q:QM} {k j:Nat} (hk:k < m) (hj:j < m):eQ (gF m Q) k j = eQ Q j k:=by
 unfold gF
 rw [eQ,dD m _ k [] hk,dD m _ j 0 hj]
theorem OO {S:SD} (h:S.Wf) {bs:List Nat} (hb:BOk S bs) (b:List Rat) :
  (ZH (gF S.m (WK S bs)) b).length = S.m /\ ∀ i,i < S.m -> OB S.m (fun j=>(OC S (HD bs j)).getD i 0 * lF (ZH (gF S.m (WK S bs)) b) j) = b.getD i 0:=by
 have h1:bF S.m (fun c j=>eQ (gF S.m (WK S bs)) j c):=hb.ind.congr (fun j i hj hi=>by rw [FM hi hj,eQ_sq hb.len hj])
 have h2:=sol_spec (pH S.m (WK S bs)) b h1
 refine ⟨h2.1,fun i hi=>?_⟩
 rw [<- h2.2 i hi]
 exact dB (fun j hj=>by rw [FM hi hj,eQ_sq hb.len hj];rfl)
theorem sq_indep {S:SD} (h:S.Wf) {bs:List Nat} (hb:BOk S bs):bF S.m (fun c j=>eQ (WK S bs) j c):=by
 refine (indep_turn (pH S.m (WK S bs)) (shp_sq h hb.len) (fun i k hi hk=>(FM hi hk).symm)).2 ?_
 exact hb.ind.congr (fun j i hj hi=>by rw [FM hi hj,eQ_sq hb.len hj])
theorem zT {S:SD} (h:S.Wf) {bs:List Nat} (hb:BOk S bs) (c:List Rat) :
  (ZH (WK S bs) c).length = S.m /\ ∀ j,j < S.m -> OB S.m (fun i=>(OC S (HD bs j)).getD i 0 * lF (ZH (WK S bs) c) i) = c.getD j 0:=by
 have h2:=sol_spec (shp_sq h hb.len) c (sq_indep h hb)
 refine ⟨h2.1,fun j hj=>?_⟩
 rw [<- h2.2 j hj]
 exact dB (fun i hi=>by rw [eQ_sq hb.len hj];rfl)
theorem x_len {S:SD} (h:S.Wf) {bs:List Nat} (hb:BOk S bs):(xL S bs).length = S.m:=(OO h hb _).1
theorem KJ {S:SD} (h:S.Wf) {bs:List Nat} (hb:BOk S bs):∀ i,i < S.m -> OB S.m (fun j=>(OC S (HD bs j)).getD i 0 * lF (xL S bs) j) = S.b.getD i 0:=(OO h hb _).2
theorem d_len {S:SD} (h:S.Wf) {bs:List Nat} (hb:BOk S bs) (k:Nat):(dL S bs k).length = S.m:=(OO h hb _).1
theorem US {S:SD} (h:S.Wf) {bs:List Nat} (hb:BOk S bs) {k:Nat} (hk:k < S.n):∀ i,i < S.m -> OB S.m (fun j=>(OC S (HD bs j)).getD i 0 * lF (dL S bs k) j) = (OC S k).getD i 0:=fun i hi=>by
 have:=(OO h hb (S.cols.getD k [])).2 i hi
 unfold OC at this ⊢
 rw [if_neg (show ¬ S.n <= k by omega)]
 exact this
theorem NN {S:SD} (h:S.Wf) (costs:List Rat) (own:Rat) {bs:List Nat} (hb:BOk S bs):(yL S costs own bs).length = S.m:=(zT h hb _).1
theorem y_sol {S:SD} (h:S.Wf) (costs:List Rat) (own:Rat) {bs:List Nat} (hb:BOk S bs):∀ j,j < S.m -> OB S.m (fun i=>(OC S (HD bs j)).getD i 0 * lF (yL S costs own bs) i) = zD S costs own (HD bs j):=fun j hj=>by
 have:=(zT h hb (bs.map (zD S costs own))).2 j hj
 rw [tH bs (zD S costs own) j 0 0 (by have:=hb.len;omega)] at this
 exact this
theorem dic_of {S:SD} (h:S.Wf) (costs:List Rat) (own:Rat) {bs:List Nat} (hb:BOk S bs) (hx:∀ j,j < S.m -> 0 <= lF (xL S bs) j):Dic (BQ S costs own) (HD bs) (lF (xL S bs)) (lF (yL S costs own bs)) :=
 ⟨hb.lt,hb.ind,KJ h hb,hx,y_sol h costs own hb⟩
theorem dot_red {S:SD} (h:S.Wf) (costs:List Rat) (own:Rat) {bs:List Nat} (hb:BOk S bs) {k:Nat} (hk:k < S.n) :
  costs.getD k 0 - LH (yL S costs own bs) (S.cols.getD k []) = YF (BQ S costs own) (lF (yL S costs own bs)) k:=by
 unfold YF LH BQ zD OC lF
 rw [NN h costs own hb,h.cm k hk,Nat.min_self]
 dsimp only
 rw [if_neg (show ¬ S.n <= k by omega),if_neg (show ¬ S.n <= k by omega)]
 rw [dB (fun i _=>Rat.mul_comm _ _)]
theorem IL {S:SD} (h:S.Wf) {costs:List Rat} {own:Rat} {bs:List Nat} (hb:BOk S bs) (he:JH S costs (yL S costs own bs) = QA):∀ k,k < S.n -> 0 <= YF (BQ S costs own) (lF (yL S costs own bs)) k:=by
 intro k hk
 unfold JH at he
 rw [List.find?_eq_none] at he
 have:=he k (zA.2 hk)
 rw [decide_eq_true_eq,Rat.not_lt] at this
 rw [<- dot_red h costs own hb hk]
 grind
theorem tG {S:SD} (h:S.Wf) {costs:List Rat} {own:Rat} {bs:List Nat} (hb:BOk S bs) {k:Nat} (he:JH S costs (yL S costs own bs) = PA k) :
  k < S.n /\ YF (BQ S costs own) (lF (yL S costs own bs)) k < 0 /\ ∀ l,l < k -> 0 <= YF (BQ S costs own) (lF (yL S costs own bs)) l:=by
 unfold JH at he
 rw [List.find?_range_eq_some] at he
 obtain ⟨h1,h2,h3⟩:=he
 have hk:k < S.n:=zA.1 h2
 refine ⟨hk,?_,fun l hl=>?_⟩
 ·rw [decide_eq_true_eq] at h1
  rw [<- dot_red h costs own hb hk]
  grind
 ·have:=h3 l hl
  simp only [Bool.not_eq_true',decide_eq_false_iff_not,Rat.not_lt] at this
  rw [<- dot_red h costs own hb (show l < S.n by omega)]
  grind
theorem HL {x d:List Rat} {bs:List Nat}:∀ {i:Nat},uE x d bs i = QA -> ∀ j,j < i -> d.getD j 0 <= 0
 | 0,_,j,hj=>by omega
 | i + 1,h,j,hj=>by
  unfold uE at h
  split at h
  ·rename_i h0
   by_cases e:j = i
   ·rw [e];exact h0
   ·exact HL h j (by omega)
  ·split at h
   ·cases h
   ·split at h <;> cases h
theorem yJ {x d:List Rat} {bs:List Nat}:∀ {i a:Nat} {q:Rat},uE x d bs i = PA (a,q) -> a < i /\ 0 < d.getD a 0 /\ q = x.getD a 0 * (d.getD a 0)⁻¹ /\
  ∀ j,j < i -> 0 < d.getD j 0 -> q < x.getD j 0 * (d.getD j 0)⁻¹ \/ q = x.getD j 0 * (d.getD j 0)⁻¹ /\ bs.getD a 0 <= bs.getD j 0
 | 0,a,q,h=>by cases h
 | i + 1,a,q,h=>by
  unfold uE at h
  split at h
  ·rename_i h0
   obtain ⟨h1,h2,h3,h4⟩:=yJ h
   refine ⟨by omega,h2,h3,fun j hj hd=>?_⟩
   by_cases e:j = i
   ·subst e;exact absurd hd (Rat.not_lt.2 h0)
   ·exact h4 j (by omega) hd
  ·rename_i h0
   have h0':=Rat.not_le.1 h0
   split at h
   ·rename_i hn
    cases h
    refine ⟨by omega,h0',rfl,fun j hj hd=>?_⟩
    by_cases e:j = i
    ·subst e;exact .inr ⟨rfl,EA _⟩
    ·exact absurd hd (Rat.not_lt.2 (HL hn j (by omega)))
   ·rename_i a1 q1 hs
    obtain ⟨h1,h2,h3,h4⟩:=yJ hs
    split at h
    ·rename_i hc
     cases h
     refine ⟨by omega,h0',rfl,fun j hj hd=>?_⟩
     by_cases e:j = i
     ·subst e;exact .inr ⟨rfl,EA _⟩
     ·have h5:=h4 j (by omega) hd
      rcases hc with hc | ⟨hc,hb⟩
      ·left;rcases h5 with h5 | ⟨h5,_⟩ <;> grind
      ·rcases h5 with h5 | ⟨h5,h6⟩
       ·left;grind
       ·right;exact ⟨by rw [hc];exact h5,by omega⟩
    ·rename_i hc
     cases h
     refine ⟨by omega,h2,h3,fun j hj hd=>?_⟩
     by_cases e:j = i
     ·subst e
      by_cases hl:q < x.getD j 0 * (d.getD j 0)⁻¹
      ·exact .inl hl
      ·right
       have hle:=Rat.not_lt.1 hl
       have he:x.getD j 0 * (d.getD j 0)⁻¹ = q:=by
        refine Classical.byContradiction (fun hne=>hc (.inl ?_))
        grind
       refine ⟨he.symm,Nat.not_lt.1 (fun hlt=>hc (.inr ⟨he,hlt⟩))⟩
     ·exact h4 j (by omega) hd
theorem DL {S:SD} (h:S.Wf) {costs:List Rat} {own:Rat} {bs:List Nat} (hb:BOk S bs) {k a:Nat} (hs:mE S costs own bs = .go k a) :
  Piv (BQ S costs own) (HD bs) (lF (xL S bs)) (lF (yL S costs own bs)) (HD (bs.set a k)) k a (lF (dL S bs k)):=by
 unfold mE at hs
 split at hs
 ·cases hs
 ·rename_i k1 he
  split at hs
  ·cases hs
  ·rename_i a1 hl
   cases hs
   obtain ⟨h1,h2,h3⟩:=tG h hb he
   unfold oK at hl
   rw [AA] at hl
   obtain ⟨⟨a2,q⟩,hl,e⟩:=hl
   dsimp only at e
   subst e
   obtain ⟨g1,g2,g3,g4⟩:=yJ hl
   rw [x_len h hb] at g1 g4
   refine ⟨h1,h2,h3,US h hb h1,g1,g2,fun j hj hd=>?_,fun j hj hd he=>?_,fun j hj=>?_⟩
   ·have h5:=g4 j hj hd
    have i1:lF (dL S bs k) a2 * (lF (dL S bs k) a2)⁻¹ = 1:=Rat.mul_inv_cancel _ (fun e=>by rw [show (dL S bs k).getD a2 0 = lF (dL S bs k) a2 from rfl,e] at g2;exact absurd g2 (by decide))
    have i2:lF (dL S bs k) j * (lF (dL S bs k) j)⁻¹ = 1:=Rat.mul_inv_cancel _ (fun e=>by rw [e] at hd;exact absurd hd (by decide))
    have hle:lF (xL S bs) a2 * (lF (dL S bs k) a2)⁻¹ <= lF (xL S bs) j * (lF (dL S bs k) j)⁻¹:=by
     show (xL S bs).getD a2 0 * ((dL S bs k).getD a2 0)⁻¹ <= (xL S bs).getD j 0 * ((dL S bs k).getD j 0)⁻¹
     rw [<- g3]
     rcases h5 with h5 | ⟨h5,_⟩ <;> grind
    have:=Rat.mul_le_mul_of_nonneg_right hle (Rat.mul_nonneg (Rat.le_of_lt g2) (Rat.le_of_lt hd))
    show lF (xL S bs) a2 * lF (dL S bs k) j <= lF (xL S bs) j * lF (dL S bs k) a2
    have e1:lF (xL S bs) a2 * (lF (dL S bs k) a2)⁻¹ * ((dL S bs k).getD a2 0 * (dL S bs k).getD j 0) = lF (xL S bs) a2 * lF (dL S bs k) j:=by
     show lF (xL S bs) a2 * (lF (dL S bs k) a2)⁻¹ * (lF (dL S bs k) a2 * lF (dL S bs k) j) = _
     grind
    have e2:lF (xL S bs) j * (lF (dL S bs k) j)⁻¹ * ((dL S bs k).getD a2 0 * (dL S bs k).getD j 0) = lF (xL S bs) j * lF (dL S bs k) a2:=by
     show lF (xL S bs) j * (lF (dL S bs k) j)⁻¹ * (lF (dL S bs k) a2 * lF (dL S bs k) j) = _
     grind
    rw [<- e1,<- e2];exact this
   ·rcases g4 j hj hd with h5 | ⟨_,h6⟩
    ·exfalso
     have i1:lF (dL S bs k) a2 * (lF (dL S bs k) a2)⁻¹ = 1:=Rat.mul_inv_cancel _ (fun e=>by rw [show (dL S bs k).getD a2 0 = lF (dL S bs k) a2 from rfl,e] at g2;exact absurd g2 (by decide))
     have i2:lF (dL S bs k) j * (lF (dL S bs k) j)⁻¹ = 1:=Rat.mul_inv_cancel _ (fun e=>by rw [e] at hd;exact absurd hd (by decide))
     rw [g3] at h5
     have:lF (xL S bs) a2 * (lF (dL S bs k) a2)⁻¹ = lF (xL S bs) j * (lF (dL S bs k) j)⁻¹:=by
      have:=congrArg (fun z=>z * ((lF (dL S bs k) a2)⁻¹ * (lF (dL S bs k) j)⁻¹)) he
      have e3:lF (xL S bs) a2 * lF (dL S bs k) j * ((lF (dL S bs k) a2)⁻¹ * (lF (dL S bs k) j)⁻¹) = lF (xL S bs) j * lF (dL S bs k) a2 * ((lF (dL S bs k) a2)⁻¹ * (lF (dL S bs k) j)⁻¹):=this
      grind
     have h6:lF (xL S bs) a2 * (lF (dL S bs k) a2)⁻¹ < lF (xL S bs) j * (lF (dL S bs k) j)⁻¹:=h5
     grind
    ·exact h6
   ·unfold HD
    rw [bA,List.getElem?_set,bA]
    have hjl:j < bs.length:=by rw [hb.len];exact hj
    by_cases e:j = a2
    ·subst e;simp [hjl]
    ·rw [if_neg (fun h=>e h.symm),if_neg e]
end Go.Off
namespace Go.Off
def XS {α:Type} (a:α) (f:Nat -> α):Nat -> α
 | 0=>a
 | t + 1=>f t
theorem Trace.cons {p:LP} {T:Nat} {bs:Nat -> Nat -> Nat} {x y:Nat -> Nat -> Rat} {k a:Nat -> Nat} {d:Nat -> Nat -> Rat} {bs0:Nat -> Nat} {x0 y0 d0:Nat -> Rat} {k0 a0:Nat}
  (h0:Dic p bs0 x0 y0) (hp:Piv p bs0 x0 y0 (bs 0) k0 a0 d0) (h:Trace p T bs x y k a d):Trace p (T + 1) (XS bs0 bs) (XS x0 x) (XS y0 y) (XS k0 k) (XS a0 a) (XS d0 d) :=
 ⟨fun t ht=>match t,ht with | 0,_=>h0 | t + 1,ht=>h.dic t (by omega),fun t ht=>match t,ht with | 0,_=>hp | t + 1,ht=>h.piv t (by omega)⟩
structure COk (S:SD) (bs:List Nat):Prop extends BOk S bs where
 pos:∀ j,j < S.m -> 0 <= lF (xL S bs) j
theorem COk.dic {S:SD} {bs:List Nat} (hb:COk S bs) (h:S.Wf) (costs:List Rat) (own:Rat):Dic (BQ S costs own) (HD bs) (lF (xL S bs)) (lF (yL S costs own bs)):=dic_of h costs own hb.toBOk hb.pos
theorem COk.next {S:SD} (h:S.Wf) {costs:List Rat} {own:Rat} {bs:List Nat} (hb:COk S bs) {k a:Nat} (hs:mE S costs own bs = .go k a):COk S (bs.set a k):=by
 have hp:=DL h hb.toBOk hs
 have hd:=hb.dic h costs own
 have hB:BOk S (bs.set a k):=by
  refine ⟨by rw [List.length_set];exact hb.len,fun j hj=>?_,hp.indep hd⟩
  have:=hp.next j hj
  unfold HD at this
  rw [this]
  have h1:=hp.kn
  have h2:=hb.lt j hj
  split
  ·show k < S.n + S.m;have:k < S.n:=h1;omega
  ·exact h2
 refine ⟨hB,fun j hj=>?_⟩
 have hx:=hp.x hd
 rw [hB.ind.uniq (KJ h hB) hx j hj]
 exact hp.pos hd j hj
theorem stepL_row {S:SD} (h:S.Wf) {costs:List Rat} {own:Rat} {bs:List Nat} (hb:BOk S bs) {k a:Nat} (hs:mE S costs own bs = .go k a):a < S.m /\ k < S.n :=
 ⟨(DL h hb hs).al,(DL h hb hs).kn⟩
theorem OE {S:SD} (h:S.Wf) {costs:List Rat} {own:Rat} (J:List Nat -> Prop) (hJ:∀ bs k a,COk S bs -> J bs -> mE S costs own bs = .go k a -> J (bs.set a k)):∀ (rem:Nat) (bs:List Nat),COk S bs -> J bs ->
  COk S (tC S costs own rem bs).bs /\ J (tC S costs own rem bs).bs /\ (tC S costs own rem bs).rem <= rem /\
  (∃ fb fx fy fk fa fd,fb 0 = HD bs /\ Trace (BQ S costs own) (rem - (tC S costs own rem bs).rem) fb fx fy fk fa fd) /\
  ((tC S costs own rem bs).err = TA /\ mE S costs own (tC S costs own rem bs).bs = .fin (tC S costs own rem bs).k (tC S costs own rem bs).d /\ (tC S costs own rem bs).y = yL S costs own (tC S costs own rem bs).bs \/
    (tC S costs own rem bs).err = SA /\ (tC S costs own rem bs).rem = 0 /\ ∃ k a,mE S costs own (tC S costs own rem bs).bs = .go k a)
 | 0,bs,hb,hj=>by
  unfold tC
  have tr:∃ fb fx fy fk fa fd,fb 0 = HD bs /\ Trace (BQ S costs own) 0 fb fx fy fk fa fd :=
   ⟨fun _=>HD bs,fun _=>lF (xL S bs),fun _=>lF (yL S costs own bs),fun _=>0,fun _=>0,fun _ _=>0,rfl,fun t _=>hb.dic h costs own,fun t ht=>by omega⟩
  split
  ·rename_i k d hs
   exact ⟨hb,hj,EA _,tr,.inl ⟨rfl,hs,rfl⟩⟩
  ·rename_i k a hs
   exact ⟨hb,hj,EA _,tr,.inr ⟨rfl,rfl,k,a,hs⟩⟩
 | r + 1,bs,hb,hj=>by
  unfold tC
  split
  ·rename_i k d hs
   refine ⟨hb,hj,EA _,?_,.inl ⟨rfl,hs,rfl⟩⟩
   rw [Nat.sub_self]
   exact ⟨fun _=>HD bs,fun _=>lF (xL S bs),fun _=>lF (yL S costs own bs),fun _=>0,fun _=>0,fun _ _=>0,rfl,fun t _=>hb.dic h costs own,fun t ht=>by omega⟩
  ·rename_i k a hs
   obtain ⟨h1,h2,h3,⟨fb,fx,fy,fk,fa,fd,h4,h5⟩,h6⟩:=OE h J hJ r (bs.set a k) (hb.next h hs) (hJ bs k a hb hj hs)
   refine ⟨h1,h2,by omega,?_,h6⟩
   have hp:=DL h hb.toBOk hs
   rw [<- h4] at hp
   have ht:=h5.cons (hb.dic h costs own) hp
   have e:r - (tC S costs own r (bs.set a k)).rem + 1 = r + 1 - (tC S costs own r (bs.set a k)).rem:=by omega
   rw [e] at ht
   exact ⟨_,_,_,_,_,_,rfl,ht⟩
theorem fK {S:SD} {costs:List Rat} {own:Rat}:∀ (rem:Nat) (bs:List Nat),(tC S costs own rem bs).err = TA ->
  (tC S costs own rem bs).rem <= rem /\
  (∀ r2,rem - (tC S costs own rem bs).rem <= r2 -> tC S costs own r2 bs = { tC S costs own rem bs with rem:=r2 - (rem - (tC S costs own rem bs).rem) }) /\
  ∀ r2,r2 < rem - (tC S costs own rem bs).rem -> (tC S costs own r2 bs).err = SA
 | 0,bs,he=>by
  cases hs:mE S costs own bs with
  | fin k d =>
   have e0:∀ r,tC S costs own r bs = ⟨TA,yL S costs own bs,k,d,bs,r⟩:=fun r=>by
    cases r <;> unfold tC <;> rw [hs]
   simp only [e0]
   exact ⟨EA _,fun r2 _=>by simp,fun r2 h2=>by omega⟩
  | go k a =>
   unfold tC at he
   rw [hs] at he
   cases he
 | r + 1,bs,he=>by
  cases hs:mE S costs own bs with
  | fin k d =>
   have e0:∀ r,tC S costs own r bs = ⟨TA,yL S costs own bs,k,d,bs,r⟩:=fun r=>by
    cases r <;> unfold tC <;> rw [hs]
   simp only [e0]
   exact ⟨EA _,fun r2 _=>by simp,fun r2 h2=>by omega⟩
  | go k a =>
   have e1:∀ r,tC S costs own (r + 1) bs = tC S costs own r (bs.set a k):=fun r=>by
    show (match mE S costs own bs with | .fin k d=>_ | .go k a=>_) = _
    rw [hs]
   have e2:(tC S costs own 0 bs).err = SA:=by unfold tC;rw [hs]
   rw [e1] at he ⊢
   obtain ⟨h1,h2,h3⟩:=fK r (bs.set a k) he
   refine ⟨by omega,fun r2 hr=>?_,fun r2 hr=>?_⟩
   ·match r2,hr with
    | 0,hr=>omega
    | r2 + 1,hr =>
     have e3:r2 + 1 - (r + 1 - (tC S costs own r (bs.set a k)).rem) = r2 - (r - (tC S costs own r (bs.set a k)).rem):=by omega
     rw [e1,h2 r2 (by omega),e3]
   ·match r2,hr with
    | 0,hr=>exact e2
    | r2 + 1,hr=>rw [e1];exact h3 r2 (by omega)
theorem GK {S:SD} (h:S.Wf) {costs:List Rat} {own:Rat} {bs:List Nat} (hb:COk S bs) {rem:Nat} (hr:jR (S.n + S.m) S.m <= rem):(tC S costs own rem bs).err = TA /\ rem - (tC S costs own rem bs).rem + 1 <= jR (S.n + S.m) S.m:=by
 obtain ⟨_,_,h3,⟨fb,fx,fy,fk,fa,fd,h4,h5⟩,h6⟩:=OE h (costs:=costs) (own:=own) (fun _=>True) (fun _ _ _ _ _ _=>trivial) rem bs hb trivial
 have hs:=h5.short
 have hs':rem - (tC S costs own rem bs).rem + 1 <= jR (S.n + S.m) S.m:=hs
 refine ⟨?_,hs'⟩
 rcases h6 with ⟨h7,_⟩ | ⟨_,h8,_⟩
 ·exact h7
 ·rw [h8] at hs';omega
end Go.Off
namespace Go.Off
def oI (S:SD) (bs:List Nat) (i:Nat):List Nat :=
 if bs.getD i 0 < S.n then bs else
 match (List.range S.n).find? (fun k=>!bs.contains k && decide ((dL S bs k).getD i 0 ≠ 0)) with
 | none=>bs
 | some k=>bs.set i k
def iD (S:SD) (bs:List Nat):Nat -> List Nat
 | 0=>bs
 | i + 1=>oI S (iD S bs i) i
def wD (n:Nat) (bs:List Nat) (l:List Rat):Nat -> List Rat
 | 0=>jA n 0
 | i + 1=>if bs.getD i 0 < n then (wD n bs l i).set (bs.getD i 0) (l.getD i 0) else wD n bs l i
def cC (S:SD) (bs:List Nat) (l:List Rat):List Rat:=wD S.n bs l bs.length
theorem nP {n:Nat} {f:Nat -> Rat}:∀ m,(∀ v,n <= v -> v < n + m -> f v = 0) -> OB (n + m) f = OB n f
 | 0,_=>rfl
 | m + 1,h=>by
  show OB (n + m) f + f (n + m) = _
  rw [nP m (fun v h1 h2=>h v h1 (by omega)),h (n + m) (by omega) (by omega),Rat.add_zero]
theorem nG (n:Nat) (bs:List Nat) (l:List Rat):∀ i,(wD n bs l i).length = n
 | 0=>by unfold wD;exact tA
 | i + 1=>by
  unfold wD
  split
  ·rw [List.length_set,nG n bs l i]
  ·exact nG n bs l i
theorem RK {α:Type} (l:List α) (j i:Nat) (v a:α) (h:j < l.length):(l.set j v).getD i a = if i = j then v else l.getD i a:=by
 rw [bA,List.getElem?_set,bA]
 by_cases e:i = j
 ·subst e;simp [h]
 ·rw [if_neg (fun h=>e h.symm),if_neg e]
theorem kS {n m:Nat} {bs:List Nat} (hi:∀ i j,i < m -> j < m -> HD bs i = HD bs j -> i = j) (l:List Rat) {v:Nat} (hv:v < n):∀ i,i <= m -> (wD n bs l i).getD v 0 = GD i (HD bs) (lF l) v
 | 0,_=>by
  unfold wD GD
  rw [bA,List.getElem?_replicate_of_lt hv]
  rfl
 | i + 1,h=>by
  unfold wD
  have ih:=kS hi l hv i (by omega)
  have e0:GD (i + 1) (HD bs) (lF l) v = GD i (HD bs) (lF l) v + (if HD bs i = v then lF l i else 0):=rfl
  rw [e0]
  by_cases he:HD bs i = v
  ·have he':bs.getD i 0 = v:=he
   rw [if_pos he,if_pos (by rw [he'];exact hv),RK _ _ _ _ _ (by rw [he',nG];exact hv),if_pos he'.symm]
   rw [bG (lF l) (fun ⟨j,hj,e⟩=>by have:=hi j i (by omega) (by omega) (e.trans he.symm);omega),Rat.zero_add]
   rfl
  ·rw [if_neg he,Rat.add_zero]
   split
   ·rw [RK _ _ _ _ _ (by rw [nG];assumption),if_neg (fun h=>he h.symm)]
    exact ih
   ·exact ih
theorem indep_repl {m a:Nat} {f g:Nat -> Nat -> Rat} {d v:Nat -> Rat} (h:bF m f) (ha:a < m) (hd:∀ i,i < m -> OB m (fun j=>f j i * d j) = v i) (hda:d a ≠ 0) (hg:∀ j,j < m -> ∀ i,i < m -> g j i = if j = a then v i else f j i):bF m g:=by
 intro c hc
 have e:∀ i,i < m -> OB m (fun j=>f j i * ((if j = a then 0 else c j) + d j * c a)) = 0:=fun i hi=>by
  rw [<- hc i hi,dB (g:=fun j=>f j i * (if j = a then 0 else c j) + (f j i * d j) * c a) (fun j _=>by grind),TF,hd i hi]
  have:=EK ha (fun j=>f j i) c (v i)
  rw [<- this]
  exact dB (fun j hj=>by rw [hg j hj i hi])
 have hz:=h _ e
 have h0:=hz a ha
 rw [if_pos rfl,Rat.zero_add] at h0
 have hca:c a = 0:=by
  rcases Rat.mul_eq_zero.1 h0 with h1 | h1
  ·exact absurd h1 hda
  ·exact h1
 intro j hj
 by_cases hja:j = a
 ·rw [hja];exact hca
 ·have:=hz j hj
  rw [if_neg hja,hca] at this
  grind
def bS (S:SD) (bs:List Nat) (i:Nat) (z:Nat -> Rat):Prop :=
 (∀ j,j < S.m -> OB S.m (fun r=>(OC S (HD bs j)).getD r 0 * z r) = if j = i then 1 else 0) /\ ∀ k,k < S.n -> OB S.m (fun r=>(OC S k).getD r 0 * z r) = 0
theorem mJ {S:SD} {bs:List Nat} (hl:bs.length = S.m) {a k j:Nat} (ha:a < S.m):HD (bs.set a k) j = if j = a then k else HD bs j:=RK bs a j k 0 (by omega)
theorem bS.set {S:SD} {bs:List Nat} {i a k:Nat} {z:Nat -> Rat} (hl:bs.length = S.m) (h:bS S bs i z) (ha:a < S.m) (hk:k < S.n) (hne:a ≠ i):bS S (bs.set a k) i z:=by
 refine ⟨fun j hj=>?_,h.2⟩
 rw [mJ hl ha]
 by_cases e:j = a
 ·rw [if_pos e,h.2 k hk,if_neg (by omega)]
 ·rw [if_neg e,h.1 j hj]
theorem bS.coord {S:SD} {bs:List Nat} {i:Nat} {z v d:Nat -> Rat} (h:bS S bs i z) (hi:i < S.m) (hd:∀ r,r < S.m -> OB S.m (fun j=>(OC S (HD bs j)).getD r 0 * d j) = v r):d i = OB S.m (fun r=>v r * z r):=by
 have e1:∀ r,r < S.m -> v r * z r = OB S.m (fun j=>(OC S (HD bs j)).getD r 0 * d j * z r):=fun r hr=>by
  rw [<- hd r hr,AE]
 rw [dB e1,oH]
 have e2:∀ j,j < S.m -> OB S.m (fun r=>(OC S (HD bs j)).getD r 0 * d j * z r) = if i = j then d j else 0:=fun j hj=>by
  rw [dB (g:=fun r=>(OC S (HD bs j)).getD r 0 * z r * d j) (fun r _=>by grind),AE,h.1 j hj]
  by_cases e:j = i
  ·rw [if_pos e,if_pos e.symm,Rat.one_mul]
  ·rw [if_neg e,if_neg (fun h=>e h.symm),Rat.zero_mul]
 rw [dB e2,WC,if_pos hi]
def Zer (S:SD) (bs:List Nat):Prop:=∀ j,j < S.m -> S.n <= HD bs j -> lF (xL S bs) j = 0
theorem clear_at {S:SD} (h:S.Wf) {bs:List Nat} (hb:COk S bs) (hz:Zer S bs) {i:Nat} (hi:i < S.m) (hd:∀ j,j < i -> S.n <= HD bs j -> ∃ z,bS S bs j z) :
  COk S (oI S bs i) /\ Zer S (oI S bs i) /\ ∀ j,j < i + 1 -> S.n <= HD (oI S bs i) j -> ∃ z,bS S (oI S bs i) j z:=by
 unfold oI
 split
 ·rename_i h0
  refine ⟨hb,hz,fun j hj hn=>?_⟩
  by_cases e:j = i
  ·subst e;have:HD bs j < S.n:=h0;omega
  ·exact hd j (by omega) hn
 ·rename_i h0
  have h0':S.n <= HD bs i:=Nat.not_lt.1 h0
  split
  ·rename_i hf
   refine ⟨hb,hz,fun j hj hn=>?_⟩
   by_cases e:j = i
   ·subst e
    rw [List.find?_eq_none] at hf
    have hs:=zT h hb.toBOk (wH S.m j)
    have hs2:∀ j',j' < S.m -> OB S.m (fun r=>(OC S (HD bs j')).getD r 0 * lF (ZH (WK S bs) (wH S.m j)) r) = if j' = j then 1 else 0:=fun j' hj'=>by
     rw [hs.2 j' hj',jP _ _ hj']
    refine ⟨lF (ZH (WK S bs) (wH S.m j)),hs2,fun k hk=>?_⟩
    have:=hf k (zA.2 hk)
    simp only [JA,Bool.not_eq_true',decide_eq_true_eq,not_and,Classical.not_not] at this
    by_cases hc:bs.contains k = SA
    ·have hmem:k ∈ bs:=List.contains_iff_mem.1 hc
     obtain ⟨j2,hj2,e2⟩:=List.getElem_of_mem hmem
     have hj3:j2 < S.m:=by have:=hb.len;omega
     have e3:HD bs j2 = k:=by unfold HD;rw [bA,aA hj2,e2];rfl
     have:=hs2 j2 hj3
     rw [e3,if_neg (fun e=>by subst e;omega)] at this
     exact this
    ·have hdi:=this (by simpa using hc)
     have e1:=US h hb.toBOk hk
     have e2:∀ r,r < S.m -> (OC S k).getD r 0 * lF (ZH (WK S bs) (wH S.m j)) r = OB S.m (fun j'=>(OC S (HD bs j')).getD r 0 * lF (dL S bs k) j' * lF (ZH (WK S bs) (wH S.m j)) r):=fun r hr=>by
      rw [<- e1 r hr,AE]
     rw [dB e2,oH]
     refine zF (fun j' hj'=>?_)
     rw [dB (g:=fun r=>(OC S (HD bs j')).getD r 0 * lF (ZH (WK S bs) (wH S.m j)) r * lF (dL S bs k) j') (fun r _=>by grind),AE,hs2 j' hj']
     by_cases e:j' = j
     ·subst e;rw [if_pos rfl,Rat.one_mul];exact hdi
     ·rw [if_neg e,Rat.zero_mul]
   ·exact hd j (by omega) hn
  ·rename_i k hf
   rw [List.find?_range_eq_some] at hf
   obtain ⟨h1,h2,_⟩:=hf
   have hk:k < S.n:=zA.1 h2
   simp only [JA,Bool.not_eq_true',decide_eq_true_eq] at h1
   have hxi:lF (xL S bs) i = 0:=hz i hi h0'
   have hB:BOk S (bs.set i k):=by
    refine ⟨by rw [List.length_set];exact hb.len,fun j hj=>?_,?_⟩
    ·have:=mJ (S:=S) (k:=k) (j:=j) hb.len hi
     unfold HD at this
     rw [this]
     have:=hb.lt j hj
     split <;> omega
    ·refine indep_repl (d:=lF (dL S bs k)) (v:=fun r=>(OC S k).getD r 0) hb.ind hi (US h hb.toBOk hk) h1.2 (fun j hj r hr=>?_)
     rw [mJ hb.len hi]
     split <;> rfl
   have hX:∀ j,j < S.m -> lF (xL S (bs.set i k)) j = lF (xL S bs) j:=by
    refine hB.ind.uniq (KJ h hB) (fun r hr=>?_)
    rw [<- KJ h hb.toBOk r hr]
    refine dB (fun j hj=>?_)
    rw [mJ hb.len hi]
    by_cases e:j = i
    ·subst e;rw [hxi,Rat.mul_zero,Rat.mul_zero]
    ·rw [if_neg e]
   refine ⟨⟨hB,fun j hj=>by rw [hX j hj];exact hb.pos j hj⟩,fun j hj hn=>?_,fun j hj hn=>?_⟩
   ·rw [hX j hj]
    rw [mJ hb.len hi] at hn
    split at hn
    ·omega
    ·exact hz j hj hn
   ·rw [mJ hb.len hi] at hn
    split at hn
    ·omega
    ·rename_i hne
     obtain ⟨z,hz'⟩:=hd j (by omega) hn
     exact ⟨z,hz'.set hb.len hi hk (by omega)⟩
theorem vG {S:SD} (h:S.Wf) {bs:List Nat} (hb:COk S bs) (hz:Zer S bs):∀ i,i <= S.m -> COk S (iD S bs i) /\ Zer S (iD S bs i) /\ ∀ j,j < i -> S.n <= HD (iD S bs i) j -> ∃ z,bS S (iD S bs i) j z
 | 0,_=>⟨hb,hz,fun j hj=>by omega⟩
 | i + 1,hi=>by
  obtain ⟨h1,h2,h3⟩:=vG h hb hz i (by omega)
  exact clear_at h h1 h2 (by omega) h3
def AK (S:SD) (bs:List Nat):Prop:=∀ j,j < S.m -> S.n <= HD bs j -> ∃ z,bS S bs j z /\ OB S.m (fun r=>S.b.getD r 0 * z r) = 0
theorem calm_of {S:SD} (h:S.Wf) {bs:List Nat} (hb:COk S bs) (hz:Zer S bs) (hd:∀ j,j < S.m -> S.n <= HD bs j -> ∃ z,bS S bs j z):AK S bs:=fun j hj hn=>by
 obtain ⟨z,h1⟩:=hd j hj hn
 exact ⟨z,h1,by rw [<- h1.coord hj (KJ h hb.toBOk)];exact hz j hj hn⟩
theorem AK.zer {S:SD} (h:S.Wf) {bs:List Nat} (hb:BOk S bs) (hc:AK S bs):Zer S bs:=fun j hj hn=>by
 obtain ⟨z,h1,h2⟩:=hc j hj hn
 rw [h1.coord hj (KJ h hb)];exact h2
theorem AK.dz {S:SD} (h:S.Wf) {bs:List Nat} (hb:BOk S bs) (hc:AK S bs) {k:Nat} (hk:k < S.n) {j:Nat} (hj:j < S.m) (hn:S.n <= HD bs j):lF (dL S bs k) j = 0:=by
 obtain ⟨z,h1,h2⟩:=hc j hj hn
 rw [h1.coord hj (US h hb hk)];exact h1.2 k hk
theorem AK.step {S:SD} (h:S.Wf) {costs:List Rat} {own:Rat} {bs:List Nat} {k a:Nat} (hb:COk S bs) (hc:AK S bs) (hs:mE S costs own bs = .go k a):AK S (bs.set a k):=by
 have hp:=DL h hb.toBOk hs
 have ha:a < S.m:=hp.al
 have hk:k < S.n:=hp.kn
 intro j hj hn
 rw [mJ hb.len ha] at hn
 split at hn
 ·omega
 ·rename_i hne
  obtain ⟨z,h1,h2⟩:=hc j hj hn
  exact ⟨z,h1.set hb.len ha hk (fun e=>hne e.symm),h2⟩
theorem CG {S:SD} {bs:List Nat} (hb:BOk S bs) (l:List Rat) {v:Nat} (hv:v < S.n):(cC S bs l).getD v 0 = GD S.m (HD bs) (lF l) v:=by
 unfold cC
 rw [hb.len]
 exact kS (fun i j hi hj e=>bF.inj (A:=fun v r=>(OC S v).getD r 0) hb.ind hi hj e) l hv S.m (EA _)
theorem IF (S:SD) (bs:List Nat) (l:List Rat):(cC S bs l).length = S.n:=nG _ _ _ _
theorem full_zero {S:SD} {bs:List Nat} (hb:BOk S bs) {x:Nat -> Rat} (hz:∀ j,j < S.m -> S.n <= HD bs j -> x j = 0) {v:Nat} (hv:S.n <= v):GD S.m (HD bs) x v = 0:=by
 refine zF (fun j hj=>?_)
 split
 ·rename_i e;exact hz j hj (by rw [e];exact hv)
 ·rfl
theorem tL {S:SD} {bs:List Nat} (hb:BOk S bs) (l:List Rat) (hz:∀ j,j < S.m -> S.n <= HD bs j -> lF l j = 0) (g:Nat -> Rat):OB S.n (fun v=>g v * (cC S bs l).getD v 0) = OB S.m (fun j=>g (HD bs j) * lF l j):=by
 rw [<- xH (N:=S.n + S.m) (bs:=HD bs) (fun j hj=>hb.lt j hj) (lF l) g,nP S.m (fun v h1 _=>by rw [full_zero hb hz h1,Rat.mul_zero])]
 exact dB (fun v hv=>by rw [CG hb l hv])
theorem full_nn {m:Nat} {bs:Nat -> Nat} {x:Nat -> Rat} (h:∀ j,j < m -> 0 <= x j) (v:Nat):0 <= GD m bs x v:=by
 unfold GD
 induction m with
 | zero=>exact Rat.le_refl
 | succ m ih =>
  show 0 <= OB m (fun j=>if bs j = v then x j else 0) + (if bs m = v then x m else 0)
  have h1:=ih (fun j hj=>h j (by omega))
  have h2:=h m (by omega)
  split <;> grind
end Go.Off
