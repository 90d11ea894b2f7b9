/- Plain fractions: what is stored, and what number it is. -/
import Derived.Test.YtncgbjhojbnecaaA1
set_option linter.unusedSimpArgs false
set_option linter.unusedVariables false
set_option linter.unnecessarySimpa false
namespace Go.Off
abbrev Row:=Option (List UInt32)
abbrev Row.ds (a:Row):List UInt32:=osl a
def Row.val (a:Row):Nat:=Off.val a.ds
structure RI where
 minus:Bool
 size:Row
structure RR where
 minus:Bool
 size:Row
 den:Row
def RI.val (a:RI):Int:=if a.minus then -(a.size.val:Int) else a.size.val
def RR.top (a:RR):Int:=if a.minus then -(a.size.val:Int) else a.size.val
def RR.bot (a:RR):Nat:=if a.den.val = 0 then 1 else a.den.val
def RR.val (a:RR):Rat:=mkRat a.top a.bot
def rowN (n:Nat):Row:=some (digits n)
def rawZ (i:Int):RI:=⟨decide (i < 0),rowN i.natAbs⟩
def rawQ (q:Rat):RR:=⟨decide (q.num < 0),rowN q.num.natAbs,rowN q.den⟩
@[simp] theorem rowN_val (n:Nat):(rowN n).val = n:=by simp [rowN,Row.val,osl,val_digits]
theorem rowN_ds (n:Nat):(rowN n).ds = digits n:=rfl
@[simp] theorem rawZ_val (i:Int):(rawZ i).val = i:=by
 unfold RI.val rawZ
 simp only [rowN_val,decide_eq_true_eq]
 split <;> omega
theorem RR.bot_ne (a:RR):a.bot ≠ 0:=by unfold RR.bot;split <;> omega
@[simp] theorem rawQ_top (q:Rat):(rawQ q).top = q.num:=by
 unfold RR.top rawQ
 simp only [rowN_val,decide_eq_true_eq]
 split <;> omega
@[simp] theorem rawQ_bot (q:Rat):(rawQ q).bot = q.den:=by
 unfold RR.bot rawQ
 have:=q.den_nz
 simp [this]
@[simp] theorem rawQ_val (q:Rat):(rawQ q).val = q:=by
 unfold RR.val;rw [rawQ_top,rawQ_bot,Rat.mkRat_self]
theorem make_num (n:Int) (d:Nat) (hd:d ≠ 0):(mkRat n d).num.natAbs = n.natAbs / n.natAbs.gcd d:=by
 rw [Rat.num_mkRat,if_neg hd,Nat.gcd_comm d,Int.natAbs_ediv_of_dvd (by
  rw [Int.ofNat_dvd_left];exact Nat.gcd_dvd_left _ _)]
 simp
theorem make_den (n:Int) (d:Nat) (hd:d ≠ 0):(mkRat n d).den = d / n.natAbs.gcd d:=by
 rw [Rat.den_mkRat,if_neg hd,Nat.gcd_comm d]
theorem make_neg (n:Int) (d:Nat) (hd:d ≠ 0):(mkRat n d).num < 0 ↔ n < 0:=by
 rw [Rat.num_mkRat,if_neg hd]
 have hg:(0:Int) < (d.gcd n.natAbs:Nat):=by
  have:=Nat.gcd_pos_of_pos_left n.natAbs (Nat.pos_of_ne_zero hd)
  omega
 constructor
 ·intro h
  refine Decidable.byContradiction fun h2=>?_
  have:=Int.ediv_nonneg (a:=n) (by omega) (Int.le_of_lt hg)
  omega
 ·intro h
  exact Int.ediv_neg_of_neg_of_pos h hg
end Go.Off
namespace Go.Off
abbrev W:Nat:=4294967296
theorem val_set (l:List UInt32) (k:Nat) (hk:k < l.length) (x:UInt32):val (l.set k x) + W ^ k * dgt l k = val l + W ^ k * x.toNat:=by
 induction l generalizing k with
 | nil=>simp at hk
 | cons d l ih =>
  cases k with
  | zero=>simp [val,dgt];omega
  | succ k =>
   have hk':k < l.length:=by simpa using hk
   have:=ih k hk'
   have hd:dgt (d :: l) (k + 1) = dgt l k:=by simp [dgt]
   simp only [List.set_cons_succ,val,hd,W,Nat.pow_succ] at this ⊢
   have e1:(4294967296 ^ k * 4294967296) * dgt l k = 4294967296 * (4294967296 ^ k * dgt l k):=by rw [Nat.mul_comm (4294967296 ^ k),Nat.mul_assoc]
   have e2:(4294967296 ^ k * 4294967296) * x.toNat = 4294967296 * (4294967296 ^ k * x.toNat):=by rw [Nat.mul_comm (4294967296 ^ k),Nat.mul_assoc]
   rw [e1,e2]
   omega
theorem dgt_set_ne (l:List UInt32) (k j:Nat) (x:UInt32) (h:k ≠ j):dgt (l.set k x) j = dgt l j:=by
 unfold dgt
 by_cases hj:j < l.length
 ·simp [hj,h]
 ·simp [hj]
theorem dgt_set_eq (l:List UInt32) (k:Nat) (hk:k < l.length) (x:UInt32):dgt (l.set k x) k = x.toNat:=by simp [dgt,hk]
theorem dgt_replicate (n k:Nat):dgt (List.replicate n 0) k = 0:=by unfold dgt;split <;> simp
theorem dgt_eq (l:List UInt32) (k:Nat) (hk:k < l.length):dgt l k = l[k].toNat:=by simp [dgt,hk]
theorem add_step {A B O c k:Nat} (x y:Nat) (h:O + W ^ k * c = A + B) :
  (O + W ^ k * ((c + (x + y)) % W)) + W ^ (k + 1) * ((c + (x + y)) / W) = (A + W ^ k * x) + (B + W ^ k * y):=by
 have e:W ^ (k + 1) * ((c + (x + y)) / W) = W ^ k * (W * ((c + (x + y)) / W)):=by rw [Nat.pow_succ,Nat.mul_assoc]
 rw [e,Nat.add_assoc,<- Nat.mul_add,Nat.mod_add_div,Nat.mul_add,Nat.mul_add]
 omega
theorem add_end' {w A B O c m:Nat} (hw:2 <= w) (hm:0 < m) (hA:A < w ^ (m - 1)) (hB:B < w ^ (m - 1)) (h:O + w ^ m * c = A + B):O = A + B:=by
 have e:w ^ m = w ^ (m - 1) * w:=by rw [<- Nat.pow_succ];congr 1;omega
 rw [e] at h
 generalize w ^ (m - 1) = p at *
 cases c with
 | zero=>simpa using h
 | succ c =>
  exfalso
  have h1:p * w * (c + 1) = p * w * c + p * w:=Nat.mul_succ _ _
  have h2:p * 2 <= p * w:=Nat.mul_le_mul_left _ hw
  have h3:0 <= p * w * c:=Nat.zero_le _
  omega
theorem add_end {A B O c m:Nat} (hm:0 < m) (hA:A < W ^ (m - 1)) (hB:B < W ^ (m - 1)) (h:O + W ^ m * c = A + B):O = A + B:=add_end' (by decide) hm hA hB h
theorem sub_step {A B O c k:Nat} (x y:Nat) (_hx:x < W) (hy:y < W) (hc:c <= 1) (h:A + W ^ k * c = O + B) :
  (A + W ^ k * x) + W ^ (k + 1) * (if x < y + c then 1 else 0) = (O + W ^ k * (if x < y + c then W + x - y - c else x - y - c)) + (B + W ^ k * y):=by
 have e:∀ z,W ^ (k + 1) * z = W ^ k * (W * z):=fun z=>by rw [Nat.pow_succ,Nat.mul_assoc]
 rw [e]
 generalize W ^ k = p at *
 split
 ·have:p * (W + x - y - c) + p * y + p * c = p * x + p * (W * 1):=by
   rw [<- Nat.mul_add,<- Nat.mul_add,<- Nat.mul_add];congr 1;omega
  omega
 ·have:p * (x - y - c) + p * y + p * c = p * x:=by
   rw [<- Nat.mul_add,<- Nat.mul_add];congr 1;omega
  simp only [Nat.mul_zero,Nat.add_zero]
  omega
theorem mul_step {V V' c i k x y o P R:Nat} (hV:V' + W ^ (i + k) * o = V + W ^ (i + k) * ((c + (x * y + o)) % W)) (h:V + W ^ (i + k) * c = P + x * W ^ i * R) :
  V' + W ^ (i + (k + 1)) * ((c + (x * y + o)) / W) = P + x * W ^ i * (R + W ^ k * y):=by
 have e:W ^ (i + (k + 1)) * ((c + (x * y + o)) / W) = W ^ (i + k) * (W * ((c + (x * y + o)) / W)):=by rw [<- Nat.add_assoc,Nat.pow_succ,Nat.mul_assoc]
 have h1:W ^ (i + k) * ((c + (x * y + o)) % W) + W ^ (i + k) * (W * ((c + (x * y + o)) / W)) = W ^ (i + k) * c + W ^ (i + k) * (x * y) + W ^ (i + k) * o:=by
  rw [<- Nat.mul_add,Nat.mod_add_div,<- Nat.mul_add,<- Nat.mul_add,Nat.add_assoc]
 have h2:x * W ^ i * (R + W ^ k * y) = x * W ^ i * R + W ^ (i + k) * (x * y):=by
  rw [Nat.mul_add,Nat.pow_add]
  congr 1
  ac_rfl
 rw [e,h2]
 omega
theorem or_add {a b s:Nat} (hb:b < 2 ^ s):(2 ^ s * a) ||| b = 2 ^ s * a + b:=(Nat.two_pow_add_eq_or_of_lt hb a).symm
theorem low_of_lt {l:List UInt32} {m:Nat} (h:val l < W ^ m):low l m = val l:=by
 by_cases hm:m <= l.length
 ·have e:=val_take_drop l m hm
  have:val (l.drop m) = 0:=by
   refine Decidable.byContradiction fun h2=>?_
   have:4294967296 ^ m * 1 <= 4294967296 ^ m * val (l.drop m):=Nat.mul_le_mul_left _ (by omega)
   simp only [W] at h
   omega
  unfold low
  rw [e,this];simp
 ·exact low_all l (by omega)
theorem sub_end {w A B O c m:Nat} (hO:O < w ^ m) (hBA:B <= A) (hc:c <= 1) (h:A + w ^ m * c = O + B):O = A - B:=by
 generalize w ^ m = p at *
 match c,hc with
 | 0,_=>simp at h;omega
 | 1,_=>simp at h;omega
 | c + 2,hc=>omega
def cmpNat (x y:Nat):Int:=if x < y then -1 else if y < x then 1 else 0
theorem cmp_len {x y:Nat} (h:(digits x).length < (digits y).length):x < y:=by
 have h1:=digits_ge h
 have h2:=val_lt (digits x)
 rw [val_digits] at h2
 exact Nat.lt_of_lt_of_le h2 h1
theorem drop_eq_of_dgt {s t:List UInt32} (hl:s.length = t.length) (k:Nat) (h:∀ j,k <= j -> dgt s j = dgt t j):s.drop k = t.drop k:=by
 apply List.ext_getElem
 ·simp [hl]
 ·intro i h1 h2
  simp only [List.length_drop] at h1 h2
  have:=h (k + i) (by omega)
  rw [dgt_eq s _ (by omega),dgt_eq t _ (by omega)] at this
  simp only [List.getElem_drop]
  exact UInt32.toNat_inj.1 this
theorem cmp_at {s t:List UInt32} (hl:s.length = t.length) (k:Nat) (hk:k < s.length) (h:∀ j,k < j -> dgt s j = dgt t j) (hlt:dgt s k < dgt t k):val s < val t:=by
 have e:=drop_eq_of_dgt hl (k + 1) (fun j hj=>h j hj)
 rw [val_take_drop s (k + 1) (by omega),val_take_drop t (k + 1) (by omega),e]
 have h1:=low_succ s k
 have h2:=low_succ t k
 have h3:=low_lt s k
 unfold low at h1 h2 h3
 rw [h1,h2]
 have:4294967296 ^ k * (dgt s k + 1) <= 4294967296 ^ k * dgt t k:=Nat.mul_le_mul_left _ hlt
 rw [Nat.mul_add] at this
 omega
theorem cmp_all {s t:List UInt32} (hl:s.length = t.length) (h:∀ j,dgt s j = dgt t j):s = t:=by
 have:=drop_eq_of_dgt hl 0 (fun j _=>h j)
 simpa using this
end Go.Off
namespace Go.Off
structure DigI (A0 b A q k:Nat):Prop where
 eq:A0 = A + b * q
 lt:A < b * 2 ^ k
 dv:∃ m,q = 2 ^ k * m
 qlt:q + 2 ^ k <= 2 ^ 32
theorem DigI.start {A0 b:Nat} (h:A0 < b * 2 ^ 32):DigI A0 b A0 0 32:=⟨by omega,h,⟨0,rfl⟩,by omega⟩
theorem DigI.yes {A0 b A q k:Nat} (h:DigI A0 b A q (k + 1)) (hk:b * 2 ^ k <= A):DigI A0 b (A - b * 2 ^ k) (q ||| 2 ^ k) k /\ q ||| 2 ^ k = q + 2 ^ k:=by
 obtain ⟨m,hm⟩:=h.dv
 have e:q ||| 2 ^ k = q + 2 ^ k:=by rw [hm];exact or_add (Nat.pow_lt_pow_right (by decide) (Nat.lt_succ_self k))
 have hp:(2:Nat) ^ (k + 1) = 2 ^ k * 2:=Nat.pow_succ ..
 have hl:=h.lt
 have hq:=h.qlt
 refine ⟨⟨?_,?_,⟨2 * m + 1,?_⟩,?_⟩,e⟩
 ·have:=h.eq;rw [e,Nat.mul_add];omega
 ·rw [hp,<- Nat.mul_assoc] at hl;omega
 ·rw [e,hm,hp,Nat.mul_add,Nat.mul_assoc,Nat.mul_one]
 ·rw [e];omega
theorem DigI.no {A0 b A q k:Nat} (h:DigI A0 b A q (k + 1)) (hk:A < b * 2 ^ k):DigI A0 b A q k:=by
 obtain ⟨m,hm⟩:=h.dv
 have hp:(2:Nat) ^ (k + 1) = 2 ^ k * 2:=Nat.pow_succ ..
 have hq:=h.qlt
 exact ⟨h.eq,hk,⟨2 * m,by rw [hm,hp,Nat.mul_assoc]⟩,by omega⟩
theorem DigI.done {A0 b A q:Nat} (h:DigI A0 b A q 0):q = A0 / b /\ A = A0 % b:=by
 have hl:=h.lt
 simp at hl
 have he:=h.eq
 have hb:0 < b:=by omega
 constructor
 ·rw [he,Nat.add_mul_div_left _ _ hb,Nat.div_eq_of_lt hl,Nat.zero_add]
 ·rw [he,Nat.add_mul_mod_self_left,Nat.mod_eq_of_lt hl]
theorem div_step (H b x:Nat) (hb:0 < b):(x + W * H) / b = (x + W * (H % b)) / b + W * (H / b) /\ (x + W * H) % b = (x + W * (H % b)) % b:=by
 have e:x + W * H = (x + W * (H % b)) + b * (W * (H / b)):=by
  have:=Nat.mod_add_div H b
  have h2:b * (W * (H / b)) = W * (b * (H / b)):=by ac_rfl
  rw [h2,Nat.add_assoc,<- Nat.mul_add,this]
 constructor
 ·rw [e,Nat.add_mul_div_left _ _ hb]
 ·rw [e,Nat.add_mul_mod_self_left]
theorem div_word {H b x:Nat} (hb:0 < b) (hx:x < W):(x + W * (H % b)) / b < W /\ x + W * (H % b) < b * W:=by
 have h1:H % b + 1 <= b:=Nat.mod_lt _ hb
 have h2:W * (H % b + 1) <= W * b:=Nat.mul_le_mul_left _ h1
 rw [Nat.mul_add,Nat.mul_comm W b] at h2
 have h3:x + W * (H % b) < b * W:=by omega
 exact ⟨Nat.div_lt_of_lt_mul h3,h3⟩
theorem gcd_step (a b:Nat):Nat.gcd b (a % b) = Nat.gcd a b:=by
 rw [Nat.gcd_comm b,<- Nat.gcd_rec b a,Nat.gcd_comm]
end Go.Off
namespace Go.Off
theorem shl_word {x d n:Nat} (hn:n < 32) (hx:x < W) (hd:d < 2 ^ n) :
  d ||| (x * 2 ^ n % W) = d + x * 2 ^ n % W /\ d + x * 2 ^ n % W < W /\ x * 2 ^ n / W < 2 ^ n /\ x * 2 ^ n < 18446744073709551616:=by
 have e:W = 2 ^ n * 2 ^ (32 - n):=by rw [<- Nat.pow_add];rw [show n + (32 - n) = 32 by omega]
 have h1:x * 2 ^ n % W = 2 ^ n * (x % 2 ^ (32 - n)):=by rw [e,Nat.mul_comm x,Nat.mul_mod_mul_left]
 have hp:0 < 2 ^ (32 - n):=Nat.pow_pos (by decide)
 have h2:=Nat.mod_lt x hp
 have h3:2 ^ n * (x % 2 ^ (32 - n) + 1) <= 2 ^ n * 2 ^ (32 - n):=Nat.mul_le_mul_left _ h2
 rw [Nat.mul_add,<- e] at h3
 have h4:x * 2 ^ n < W * 2 ^ n:=Nat.mul_lt_mul_of_pos_right hx (Nat.pow_pos (by decide))
 have h5:(2:Nat) ^ n <= 2 ^ 32:=Nat.pow_le_pow_right (by decide) (by omega)
 have h6:W * 2 ^ n <= W * 2 ^ 32:=Nat.mul_le_mul_left _ h5
 refine ⟨?_,?_,Nat.div_lt_of_lt_mul h4,?_⟩
 ·rw [h1,Nat.or_comm,or_add hd,Nat.add_comm]
 ·rw [h1];omega
 ·simp only [W] at h4 h6
  omega
theorem shl_val' {w k d y n V V1 V2 A x:Nat} (hy:y = x * 2 ^ n) (h1:V1 + w ^ k * d = V + w ^ k * (d + y % w)) (h2:V2 = V1 + w ^ (k + 1) * (y / w)) (h:V = A * 2 ^ n):V2 = (A + w ^ k * x) * 2 ^ n:=by
 have e1:w ^ (k + 1) * (y / w) = w ^ k * (w * (y / w)):=by rw [Nat.pow_succ,Nat.mul_assoc]
 have e2:w ^ k * (y % w) + w ^ k * (w * (y / w)) = w ^ k * y:=by rw [<- Nat.mul_add,Nat.mod_add_div]
 rw [Nat.mul_add] at h1
 rw [Nat.add_mul,<- h,Nat.mul_assoc,<- hy]
 rw [e1] at h2
 generalize w ^ k * (y % w) = p at *
 generalize w ^ k * (w * (y / w)) = q at *
 generalize w ^ k * y = r at *
 generalize w ^ k * d = t at *
 omega
theorem shl_val {k d y n V V1 V2 A x:Nat} (hy:y = x * 2 ^ n) (h1:V1 + W ^ k * d = V + W ^ k * (d + y % W)) (h2:V2 + W ^ (k + 1) * 0 = V1 + W ^ (k + 1) * (y / W)) (h:V = A * 2 ^ n):V2 = (A + W ^ k * x) * 2 ^ n :=
 shl_val' hy h1 (by rw [Nat.mul_zero,Nat.add_zero] at h2;exact h2) h
end Go.Off
namespace Go.Off
def cmpQ (x y:Rat):Int:=if x < y then -1 else if y < x then 1 else 0
theorem mkRat_lt {n m:Int} {d e:Nat} (hd:d ≠ 0) (he:e ≠ 0):mkRat n d < mkRat m e ↔ n * e < m * d:=by
 rw [Rat.mkRat_eq_div,Rat.mkRat_eq_div]
 have h1:(0:Rat) < (d:Rat):=by exact_mod_cast Nat.pos_of_ne_zero hd
 have h2:(0:Rat) < (e:Rat):=by exact_mod_cast Nat.pos_of_ne_zero he
 rw [Rat.div_lt_iff h1]
 have h3:(m:Rat) / e * d = (m * d) / e:=by grind
 rw [h3,Rat.lt_div_iff h2]
 exact_mod_cast Iff.rfl
theorem cmp_mkRat {n m:Int} {d e:Nat} (hd:d ≠ 0) (he:e ≠ 0):(if n * e < m * d then (-1:Int) else if m * d < n * e then 1 else 0) = cmpQ (mkRat n d) (mkRat m e):=by
 unfold cmpQ
 simp only [mkRat_lt hd he,mkRat_lt he hd]
end Go.Off
