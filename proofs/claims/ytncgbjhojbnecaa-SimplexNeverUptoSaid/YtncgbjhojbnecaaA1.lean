/- Plain numbers: rows of 32 bits. -/
import Derived.RangeFuncNested
import Derived.RangeFuncLeaves
import Derived.OrdersIn
import Derived.Below
import Derived.Laws.OwnMore
import Derived.Laws.Cover3
set_option linter.unusedSimpArgs false
set_option linter.unusedVariables false
set_option linter.unnecessarySimpa false
namespace Go.Off
def osl {α:Type} (a:Option (List α)):List α:=a.getD []
theorem osl_some {α:Type} (l:List α):osl (some l) = l:=rfl
theorem osl_none {α:Type}:osl (none:Option (List α)) = []:=rfl
def val:List UInt32 -> Nat
 | []=>0
 | d :: l=>d.toNat + 4294967296 * val l
def digits (n:Nat):List UInt32:=if n = 0 then [] else UInt32.ofNat n :: digits (n / 4294967296)
theorem digits_zero:digits 0 = []:=by rw [digits];rfl
theorem digits_pos {n:Nat} (h:n ≠ 0):digits n = UInt32.ofNat n :: digits (n / 4294967296):=by rw [digits,if_neg h]
theorem val_digits (n:Nat):val (digits n) = n:=by
 induction n using Nat.strongRecOn with
 | ind n ih =>
  by_cases h:n = 0
  ·subst h;rw [digits_zero];rfl
  ·rw [digits_pos h,val,ih _ (by omega)]
   simp only [UInt32.toNat_ofNat']
   omega
theorem val_append (l m:List UInt32):val (l ++ m) = val l + 4294967296 ^ l.length * val m:=by
 induction l with
 | nil=>simp [val]
 | cons d l ih =>
  simp only [List.cons_append,val,ih,List.length_cons,Nat.pow_succ]
  rw [Nat.mul_add,Nat.add_assoc,Nat.mul_comm (4294967296 ^ l.length) 4294967296,Nat.mul_assoc]
theorem val_lt (l:List UInt32):val l < 4294967296 ^ l.length:=by
 induction l with
 | nil=>simp [val]
 | cons d l ih =>
  have hd:=d.toNat_lt
  simp only [val,List.length_cons,Nat.pow_succ]
  omega
theorem val_replicate (n:Nat):val (List.replicate n 0) = 0:=by
 induction n with
 | zero=>rfl
 | succ n ih=>simp [List.replicate_succ,val,ih]
theorem val_take_drop (l:List UInt32) (k:Nat) (hk:k <= l.length):val l = val (l.take k) + 4294967296 ^ k * val (l.drop k):=by
 have:=val_append (l.take k) (l.drop k)
 rw [List.take_append_drop,List.length_take,Nat.min_eq_left hk] at this
 exact this
theorem val_take_succ (l:List UInt32) (k:Nat) (hk:k < l.length):val (l.take (k + 1)) = val (l.take k) + 4294967296 ^ k * l[k].toNat:=by
 rw [List.take_succ_eq_append_getElem hk,val_append]
 simp [val,Nat.min_eq_left (Nat.le_of_lt hk)]
theorem val_drop (l:List UInt32) (k:Nat) (hk:k < l.length):val (l.drop k) = l[k].toNat + 4294967296 * val (l.drop (k + 1)):=by
 rw [List.drop_eq_getElem_cons hk,val]
theorem digits_len_le {n k:Nat} (h:n < 4294967296 ^ k):(digits n).length <= k:=by
 induction k generalizing n with
 | zero =>
  have:n = 0:=by simpa using h
  subst this;simp [digits_zero]
 | succ k ih =>
  by_cases hn:n = 0
  ·subst hn;simp [digits_zero]
  ·rw [digits_pos hn,List.length_cons]
   have:n / 4294967296 < 4294967296 ^ k:=by
    rw [Nat.pow_succ] at h
    exact Nat.div_lt_of_lt_mul (by rw [Nat.mul_comm];exact h)
   have:=ih this
   omega
def trimmed (l:List UInt32):Prop:=∀ h:l ≠ [],l.getLast h ≠ 0
theorem digits_val {l:List UInt32} (h:trimmed l):digits (val l) = l:=by
 induction l with
 | nil=>exact digits_zero
 | cons d l ih =>
  have hl:trimmed l:=fun hne=>by
   have:=h (by simp)
   rwa [List.getLast_cons hne] at this
  have hpos:val (d :: l) ≠ 0:=by
   cases l with
   | nil =>
    have h1:=h (by simp)
    simp only [List.getLast_singleton] at h1
    simp only [val]
    intro h2
    apply h1
    apply UInt32.toNat_inj.1
    simp;omega
   | cons x l =>
    intro h2
    simp only [val] at h2
    have e:=ih hl
    have:val (x :: l) = 0:=by simp only [val];omega
    rw [this,digits_zero] at e
    cases e
  rw [digits_pos hpos]
  have hd:=d.toNat_lt
  have h1:UInt32.ofNat (val (d :: l)) = d:=by
   apply UInt32.toNat_inj.1
   simp only [val,UInt32.toNat_ofNat']
   omega
  have h2:val (d :: l) / 4294967296 = val l:=by simp only [val];omega
  rw [h1,h2,ih hl]
theorem digits_trimmed (n:Nat):trimmed (digits n):=by
 induction n using Nat.strongRecOn with
 | ind n ih =>
  by_cases h:n = 0
  ·subst h;rw [digits_zero];intro h;exact absurd rfl h
  ·rw [digits_pos h]
   intro hne
   by_cases h2:n / 4294967296 = 0
   ·have e:digits (n / 4294967296) = []:=by rw [h2,digits_zero]
    simp only [e,List.getLast_singleton]
    intro h3
    have:=congrArg UInt32.toNat h3
    simp only [UInt32.toNat_ofNat'] at this
    have:n < 4294967296:=by omega
    simp at *
    omega
   ·have hne2:digits (n / 4294967296) ≠ []:=by rw [digits_pos h2];simp
    rw [List.getLast_cons hne2]
    exact ih _ (by omega) hne2
theorem digits_len_pos {n:Nat} (h:n ≠ 0):0 < (digits n).length:=by rw [digits_pos h];simp
theorem digits_nil_iff {n:Nat}:digits n = [] ↔ n = 0:=by
 constructor
 ·intro h
  refine Decidable.byContradiction fun h2=>?_
  rw [digits_pos h2] at h
  cases h
 ·rintro rfl
  exact digits_zero
theorem digits_inj {a b:Nat} (h:digits a = digits b):a = b:=by rw [<- val_digits a,h,val_digits]
theorem digits_ge {n k:Nat} (h:k < (digits n).length):4294967296 ^ k <= n:=by
 refine Decidable.byContradiction fun h2=>?_
 have:=digits_len_le (n:=n) (k:=k) (by omega)
 omega
theorem val_eq_zero {l:List UInt32}:val l = 0 ↔ ∀ d ∈ l,d = 0:=by
 induction l with
 | nil=>simp [val]
 | cons d l ih =>
  have:d = 0 ↔ d.toNat = 0:=by rw [<- UInt32.toNat_inj];rfl
  simp only [val,List.mem_cons,forall_eq_or_imp,<- ih,this]
  omega
theorem val_take_of_zero (l:List UInt32) (k:Nat) (h:∀ j (hj:j < l.length),k <= j -> l[j] = 0):val (l.take k) = val l:=by
 by_cases hk:k <= l.length
 ·rw [val_take_drop l k hk]
  have:val (l.drop k) = 0:=val_eq_zero.2 fun d hd=>by
   obtain ⟨i,hi,rfl⟩:=List.getElem_of_mem hd
   rw [List.getElem_drop]
   exact h _ _ (by omega)
  simp [this]
 ·rw [List.take_of_length_le (by omega)]
def dgt (l:List UInt32) (k:Nat):Nat:=if h:k < l.length then l[k].toNat else 0
theorem dgt_lt (l:List UInt32) (k:Nat):dgt l k < 4294967296:=by
 unfold dgt;split
 ·exact UInt32.toNat_lt _
 ·decide
def low (l:List UInt32) (k:Nat):Nat:=val (l.take k)
theorem low_zero (l:List UInt32):low l 0 = 0:=by simp [low,val]
theorem low_succ (l:List UInt32) (k:Nat):low l (k + 1) = low l k + 4294967296 ^ k * dgt l k:=by
 unfold low dgt
 split
 ·rename_i h;rw [val_take_succ l k h]
 ·rename_i h;rw [List.take_of_length_le (by omega),List.take_of_length_le (by omega)];simp
theorem low_all (l:List UInt32) {k:Nat} (h:l.length <= k):low l k = val l:=by unfold low;rw [List.take_of_length_le h]
theorem low_lt (l:List UInt32) (k:Nat):low l k < 4294967296 ^ k:=by
 have:=val_lt (l.take k)
 have h2:(l.take k).length <= k:=by simp;omega
 exact Nat.lt_of_lt_of_le this (Nat.pow_le_pow_right (by decide) h2)
theorem low_set (l:List UInt32) (k:Nat) (hk:k < l.length) (x:UInt32):low (l.set k x) (k + 1) = low l k + 4294967296 ^ k * x.toNat:=by
 have h1:dgt (l.set k x) k = x.toNat:=by simp [dgt,hk]
 have h2:low (l.set k x) k = low l k:=by unfold low;rw [List.take_set_of_le (Nat.le_refl _)]
 rw [low_succ,h1,h2]
end Go.Off
namespace Go.Am
open Go.RowKit
inductive CV where
 | val (v:Value)
 | str (s:List UInt8)
 | sl (e:Nat) (l:List (List CV))
 deriving Inhabited
inductive Cell where
 | c (x:CV)
 | own (b ver:Nat)
 | ptr (b ver i off:Nat)
 | iptr (l:List CV)
 | slx (e:Nat) (l:List (List CV))
 | fn (f:FuncId) (caps:List Cell)
 | mfn (f:FuncId) (x:Cell)
 | junk
 deriving Inhabited
inductive AV where
 | one (x:Cell)
 | agg (l:List Cell)
 | tup (l:List AV)
 | junk
 deriving Inhabited
structure Blk where
 ver:Nat
 ty:TypeId
 e:Nat
 els:List (List Cell)
 live:Bool
 nn:Bool
 deriving Inhabited
structure St where
 t:List AV
 h:List Blk
inductive CR (w:World) (bad:Nat -> Prop):CV -> Value -> Prop
 | val (v:Value) (h:v.oneCell' = true):CR w bad (.val v) v
 | str (s:List UInt8):CR w bad (.str s) (.string ⟨s.toArray⟩)
 | sl (e:Nat) (l:List (List CV)) (g off cap:Nat) (f:Nat -> Nat -> Value) (hcap:l.length <= cap) (hbad:¬ bad g) (hlt:g < w.heap.size)
   (hrow:∀ (i:Nat) (r:List CV),l[i]? = some r -> r.length = e)
   (hc:∀ (i j:Nat),i < l.length -> j < e -> w.cell? ⟨g,off + (i * e + j),none⟩ = some (f i j))
   (hv:∀ (i j:Nat) (r:List CV) (x:CV),l[i]? = some r -> r[j]? = some x -> CR w bad x (f i j)):CR w bad (.sl e l) (.slice (some ⟨g,off,none⟩) l.length cap)
 | emp (e:Nat) (a:Addr):CR w bad (.sl e []) (.slice (some a) 0 0)
inductive VR (w:World) (bad:Nat -> Prop) (h:List Blk) (hd:Nat -> Value):Cell -> Value -> Prop
 | c (x:CV) (v:Value) (hx:CR w bad x v):VR w bad h hd (.c x) v
 | own (b:Nat) (blk:Blk) (hb:h[b]? = some blk) (h1:(hd b).oneCell' = true):VR w bad h hd (.own b blk.ver) (hd b)
 | ownStale (b ver:Nat) (blk:Blk) (v:Value) (hb:h[b]? = some blk) (hv:ver < blk.ver) (h1:v.oneCell' = true):VR w bad h hd (.own b ver) v
 | ptr (b i off:Nat) (blk:Blk) (g n cap:Nat) (hb:h[b]? = some blk) (hh:hd b = .slice (some ⟨g,0,none⟩) n cap) :
   VR w bad h hd (.ptr b blk.ver i off) (.pointer (some ⟨g,i * blk.e + off,none⟩))
 | ptrStale (b ver i off:Nat) (blk:Blk) (v:Value) (hb:h[b]? = some blk) (hv:ver < blk.ver) (h1:v.oneCell' = true):VR w bad h hd (.ptr b ver i off) v
 | iptr (l:List CV) (g off:Nat) (f:Nat -> Value) (hbad:¬ bad g) (hlt:g < w.heap.size)
   (hc:∀ (j:Nat) (x:CV),l[j]? = some x -> w.cell? ⟨g,off + j,none⟩ = some (f j)) (hv:∀ (j:Nat) (x:CV),l[j]? = some x -> CR w bad x (f j)) :
   VR w bad h hd (.iptr l) (.pointer (some ⟨g,off,none⟩))
 | fn (f:FuncId) (caps:List Cell) (vs:List Value) (hl:caps.length = vs.length)
   (hv:∀ (i:Nat) (c:Cell) (v:Value),caps[i]? = some c -> vs[i]? = some v -> VR w bad h hd c v):VR w bad h hd (.fn f caps) (.func (.func f) #[] vs.toArray)
 | mfn (f:FuncId) (c:Cell) (v:Value) (hv:VR w bad h hd c v):VR w bad h hd (.mfn f c) (.func (.func f) #[v] #[])
 | slx (e:Nat) (l:List (List CV)) (g off:Nat) (hx:CR w bad (.sl e l) (.slice (some ⟨g,off,none⟩) l.length l.length)):VR w bad h hd (.slx e l) (.slice (some ⟨g,off,none⟩) l.length l.length)
 | junk (v:Value) (h1:v.oneCell' = true):VR w bad h hd .junk v
inductive AVR (w:World) (bad:Nat -> Prop) (h:List Blk) (hd:Nat -> Value):AV -> Value -> Prop
 | one (x:Cell) (v:Value) (hx:VR w bad h hd x v):AVR w bad h hd (.one x) v
 | agg (l:List Cell) (vs:List Value) (hl:l.length = vs.length)
   (hv:∀ (i:Nat) (c:Cell) (v:Value),l[i]? = some c -> vs[i]? = some v -> VR w bad h hd c v):AVR w bad h hd (.agg l) (.agg vs.toArray)
 | tup (l:List AV) (vs:List Value) (hl:l.length = vs.length)
   (hv:∀ (i:Nat) (c:AV) (v:Value),l[i]? = some c -> vs[i]? = some v -> AVR w bad h hd c v):AVR w bad h hd (.tup l) (.tuple vs.toArray)
 | junk (v:Value):AVR w bad h hd .junk v
structure Tr (w:World) (bad:Nat -> Prop) (h:List Blk) (hd:Nat -> Value) (w':World) (bad':Nat -> Prop) (h':List Blk) (hd':Nat -> Value):Prop where
 blk:∀ g,¬ bad g -> g < w.heap.size -> w'.heap[g]? = w.heap[g]?
 ok:∀ g,¬ bad g -> g < w.heap.size -> ¬ bad' g
 size:w.heap.size <= w'.heap.size
 own:∀ (b:Nat) (k:Blk),h[b]? = some k -> ∃ k',h'[b]? = some k' /\ ((k'.ver = k.ver /\ hd' b = hd b /\ k'.e = k.e) \/ k.ver < k'.ver)
variable {w w1 w2 w':World} {bad bad1 bad2 bad' M0:Nat -> Prop} {h h1 h2 h':List Blk} {hd hd1 hd2 hd':Nat -> Value} {B0:Nat}
theorem Tr.refl (w:World) (bad:Nat -> Prop) (h:List Blk) (hd:Nat -> Value):Tr w bad h hd w bad h hd:=⟨fun _ _ _=>rfl,fun _ h _=>h,Nat.le_refl _,fun b k hk=>⟨k,hk,.inl ⟨rfl,rfl,rfl⟩⟩⟩
theorem Tr.trans (a:Tr w bad h hd w1 bad1 h1 hd1) (b:Tr w1 bad1 h1 hd1 w2 bad2 h2 hd2):Tr w bad h hd w2 bad2 h2 hd2:=by
 refine ⟨fun g hg hl=>?_,fun g hg hl=>?_,Nat.le_trans a.size b.size,fun i k hk=>?_⟩
 ·have:=a.size
  rw [b.blk g (a.ok g hg hl) (by omega),a.blk g hg hl]
 ·have:=a.size
  exact b.ok g (a.ok g hg hl) (by omega)
 ·obtain ⟨k1,hk1,hc1⟩:=a.own i k hk
  obtain ⟨k2,hk2,hc2⟩:=b.own i k1 hk1
  refine ⟨k2,hk2,?_⟩
  rcases hc1 with ⟨v1,d1,e1⟩ | v1 <;> rcases hc2 with ⟨v2,d2,e2⟩ | v2
  ·exact .inl ⟨v2.trans v1,d2.trans d1,e2.trans e1⟩
  ·exact .inr (by omega)
  ·exact .inr (by omega)
  ·exact .inr (by omega)
theorem CR.tr (hb:∀ g,¬ bad g -> g < w.heap.size -> w'.heap[g]? = w.heap[g]?) (ho:∀ g,¬ bad g -> g < w.heap.size -> ¬ bad' g) (hs:w.heap.size <= w'.heap.size)
  {x:CV} {v:Value} (h:CR w bad x v):CR w' bad' x v:=by
 induction h with
 | val v h=>exact .val v h
 | str s=>exact .str s
 | sl e l g off cap f hcap hbad hlt hrow hc hv ih =>
  exact .sl e l g off cap f hcap (ho g hbad hlt) (by omega) hrow (fun i j hi hj=>by rw [World.cell?_of_block (w:=w) (hb g hbad hlt)];exact hc i j hi hj) ih
 | emp e a=>exact .emp e a
theorem VR.tr (t:Tr w bad h hd w' bad' h' hd') {x:Cell} {v:Value} (hx:VR w bad h hd x v):VR w' bad' h' hd' x v:=by
 induction hx with
 | c x v hx=>exact .c x v (hx.tr t.blk t.ok t.size)
 | own b blk hb h1 =>
  obtain ⟨k,hk,⟨hv,hh,he⟩ | hv⟩:=t.own b blk hb
  ·rw [<- hv,<- hh];exact .own b k hk (hh ▸ h1)
  ·exact .ownStale b _ k _ hk hv h1
 | ownStale b ver blk v hb hv h1 =>
  obtain ⟨k,hk,⟨hv',hh,he⟩ | hv'⟩:=t.own b blk hb
  ·exact .ownStale b ver k v hk (by omega) h1
  ·exact .ownStale b ver k v hk (by omega) h1
 | ptr b i off blk g n cap hb hh =>
  obtain ⟨k,hk,⟨hv',hh',he⟩ | hv'⟩:=t.own b blk hb
  ·rw [<- hv',<- he];exact .ptr b i off k g n cap hk (hh' ▸ hh)
  ·exact .ptrStale b _ i off k _ hk hv' rfl
 | ptrStale b ver i off blk v hb hv h1 =>
  obtain ⟨k,hk,⟨hv',hh,he⟩ | hv'⟩:=t.own b blk hb
  ·exact .ptrStale b ver i off k v hk (by omega) h1
  ·exact .ptrStale b ver i off k v hk (by omega) h1
 | iptr l g off f hbad hlt hc hv =>
  exact .iptr l g off f (t.ok g hbad hlt) (by have:=t.size;omega) (fun j x hj=>by rw [World.cell?_of_block (w:=w) (t.blk g hbad hlt)];exact hc j x hj) (fun j x hj=>(hv j x hj).tr t.blk t.ok t.size)
 | fn f caps vs hl hv ih=>exact .fn f caps vs hl ih
 | mfn f c v hv ih=>exact .mfn f c v ih
 | slx e l g off hx=>exact .slx e l g off (hx.tr t.blk t.ok t.size)
 | junk v h1=>exact .junk v h1
theorem AVR.tr (t:Tr w bad h hd w' bad' h' hd') {x:AV} {v:Value} (hx:AVR w bad h hd x v):AVR w' bad' h' hd' x v:=by
 induction hx with
 | one x v hx=>exact .one x v (hx.tr t)
 | agg l vs hl hv=>exact .agg l vs hl (fun i c v h1 h2=>(hv i c v h1 h2).tr t)
 | tup l vs hl hv ih=>exact .tup l vs hl ih
 | junk v=>exact .junk v
theorem CR.oneCell {x:CV} {v:Value} (h:CR w bad x v):v.oneCell' = true:=by
 cases h <;> first | assumption | rfl
theorem VR.oneCell {x:Cell} {v:Value} (hx:VR w bad h hd x v):v.oneCell' = true:=by
 cases hx <;> first | assumption | rfl | (rename_i hx;exact hx.oneCell)
def badOf (M0:Nat -> Prop) (h:List Blk) (hd:Nat -> Value):Nat -> Prop:=fun g =>
 M0 g \/ ∃ (b:Nat) (k:Blk),h[b]? = some k /\ k.live = true /\ (hd b).ownBlock = some g
structure HR (B0:Nat) (M0:Nat -> Prop) (w:World) (h:List Blk) (hd:Nat -> Value):Prop where
 blk:∀ (b:Nat) (k:Blk),h[b]? = some k -> (∀ (i:Nat) (r:List Cell),k.els[i]? = some r -> r.length = k.e) /\ ∃ xs:List Value,w.ownsRow B0 k.ty k.e (hd b) k.els.length xs /\
  ∀ (i:Nat) (c:Cell) (v:Value),k.els.flatten[i]? = some c -> xs[i]? = some v -> VR w (badOf M0 h hd) h hd c v
 nn:∀ (b:Nat) (k:Blk),h[b]? = some k -> (k.nn = false ↔ hd b = .slice none 0 0)
 apart:∀ (b b':Nat) (k k':Blk),h[b]? = some k -> h[b']? = some k' -> k.live = true -> b ≠ b' -> ∀ g,(hd b).ownBlock = some g -> (hd b').ownBlock ≠ some g
theorem HR.tr_grown {row:Option Nat} (hg:w.grownBy w' row) (hr:∀ g,row = some g -> badOf M0 h hd g):Tr w (badOf M0 h hd) h hd w' (badOf M0 h hd) h hd :=
 ⟨fun g hb hl=>hg.block g hl (fun e=>hb (hr g e.symm)),fun g hb _=>hb,hg.size,fun b k hk=>⟨k,hk,.inl ⟨rfl,rfl,rfl⟩⟩⟩
end Go.Am
namespace Go.Am
open Go.RowKit
variable {w w1 w2 w':World} {M0:Nat -> Prop} {h h1 h2 h':List Blk} {hd hd1 hd2 hd':Nat -> Value} {B0:Nat}
def upd (hd:Nat -> Value) (b:Nat) (v:Value):Nat -> Value:=fun i=>if i = b then v else hd i
theorem upd_same (hd:Nat -> Value) (b:Nat) (v:Value):upd hd b v b = v:=by simp [upd]
theorem upd_other (hd:Nat -> Value) {b i:Nat} (v:Value) (h:i ≠ b):upd hd b v i = hd i:=by simp [upd,h]
theorem ownsRow_one {w:World} {base e size n:Nat} {v:Value} {xs:List Value} (h:w.ownsRow base e size v n xs):v.oneCell' = true:=by
 rcases h.2 with ⟨rfl,_⟩ | ⟨g,cap,cur,rfl,_⟩ <;> rfl
theorem HR.one (H:HR B0 M0 w h hd) {b:Nat} {k:Blk} (hb:h[b]? = some k):(hd b).oneCell' = true:=by
 obtain ⟨_,xs,ho,_⟩:=H.blk b k hb
 exact ownsRow_one ho
theorem HR.lt (H:HR B0 M0 w h hd) {b:Nat} {k:Blk} (hb:h[b]? = some k) {g:Nat} (hg:(hd b).ownBlock = some g):B0 <= g /\ g < w.heap.size:=by
 obtain ⟨_,xs,ho,_⟩:=H.blk b k hb
 exact ho.lt g hg
theorem HR.row_bad (H:HR B0 M0 w h hd) {b:Nat} {k:Blk} (hb:h[b]? = some k) (hl:k.live = true):∀ g,(hd b).ownBlock = some g -> badOf M0 h hd g :=
 fun g hg=>.inr ⟨b,k,hb,hl,hg⟩
theorem HR.new2 (H:HR B0 M0 w h hd) (hg:w.grownBy w' none) {v:Value} {k:Blk} {xs:List Value}
  (hk:∀ (i:Nat) (r:List Cell),k.els[i]? = some r -> r.length = k.e) (ho:w'.ownsRow B0 k.ty k.e v k.els.length xs)
  (hx:∀ (i:Nat) (c:Cell) (u:Value),k.els.flatten[i]? = some c -> xs[i]? = some u -> Tr w (badOf M0 h hd) h hd w' (badOf M0 (h ++ [k]) (upd hd h.length v)) (h ++ [k]) (upd hd h.length v) ->
   VR w' (badOf M0 (h ++ [k]) (upd hd h.length v)) (h ++ [k]) (upd hd h.length v) c u)
  (hf:∀ g,v.ownBlock = some g -> w.heap.size <= g) (hM:∀ g,M0 g -> g < w.heap.size) (hn:k.nn = false ↔ v = .slice none 0 0) :
  HR B0 M0 w' (h ++ [k]) (upd hd h.length v) /\ Tr w (badOf M0 h hd) h hd w' (badOf M0 (h ++ [k]) (upd hd h.length v)) (h ++ [k]) (upd hd h.length v):=by
 have hold:∀ (b:Nat) (kb:Blk),h[b]? = some kb -> (h ++ [k])[b]? = some kb /\ upd hd h.length v b = hd b:=fun b kb hb=>by
  have hlt:b < h.length:=(List.getElem?_eq_some_iff.1 hb).1
  exact ⟨by rw [List.getElem?_append_left hlt];exact hb,upd_other hd v (by omega)⟩
 have hinv:∀ (b:Nat) (kb:Blk),(h ++ [k])[b]? = some kb -> (h[b]? = some kb /\ b ≠ h.length) \/ (b = h.length /\ kb = k):=fun b kb hb=>by
  by_cases hlt:b < h.length
  ·rw [List.getElem?_append_left hlt] at hb;exact .inl ⟨hb,by omega⟩
  ·rw [List.getElem?_append_right (by omega)] at hb
   have:b - h.length = 0:=by
    rcases Nat.eq_zero_or_pos (b - h.length) with e | e
    ·exact e
    ·rw [List.getElem?_eq_none (by simp;omega)] at hb;cases hb
   rw [this] at hb
   exact .inr ⟨by omega,by simpa using hb.symm⟩
 have T:Tr w (badOf M0 h hd) h hd w' (badOf M0 (h ++ [k]) (upd hd h.length v)) (h ++ [k]) (upd hd h.length v):=by
  refine ⟨fun g hb hl=>hg.block g hl (by simp),fun g hb hl hbad=>?_,hg.size,fun b kb hb=>?_⟩
  ·rcases hbad with hm | ⟨b,kb,hkb,hlive,hgb⟩
   ·exact hb (.inl hm)
   ·rcases hinv b kb hkb with ⟨h1,h2⟩ | ⟨rfl,rfl⟩
    ·rw [upd_other hd v h2] at hgb
     exact hb (.inr ⟨b,kb,h1,hlive,hgb⟩)
    ·rw [upd_same] at hgb
     have:=hf g hgb
     omega
  ·exact ⟨kb,(hold b kb hb).1,.inl ⟨rfl,(hold b kb hb).2,rfl⟩⟩
 refine ⟨⟨fun b kb hb=>?_,fun b kb hb=>?_,fun b b' kb kb' hb hb' hl hne g hgb hgb'=>?_⟩,T⟩
 ·rcases hinv b kb hb with ⟨h1,h2⟩ | ⟨rfl,rfl⟩
  ·obtain ⟨hr,ys,hoy,hvy⟩:=H.blk b kb h1
   rw [upd_other hd v h2]
   exact ⟨hr,ys,hoy.kept hg (by cases e:(hd b).ownBlock <;> simp),fun i c u hc hu=>(hvy i c u hc hu).tr T⟩
  ·rw [upd_same]
   exact ⟨hk,xs,ho,fun i c u hc hu=>hx i c u hc hu T⟩
 ·rcases hinv b kb hb with ⟨h1,h2⟩ | ⟨rfl,rfl⟩
  ·rw [upd_other hd v h2];exact H.nn b kb h1
  ·rw [upd_same];exact hn
 ·rcases hinv b kb hb with ⟨h1,h2⟩ | ⟨rfl,rfl⟩ <;> rcases hinv b' kb' hb' with ⟨h1',h2'⟩ | ⟨rfl,rfl⟩
  ·rw [upd_other hd v h2] at hgb;rw [upd_other hd v h2'] at hgb'
   exact H.apart b b' kb kb' h1 h1' hl hne g hgb hgb'
  ·rw [upd_other hd v h2] at hgb;rw [upd_same] at hgb'
   have:=(H.lt h1 hgb).2
   have:=hf g hgb'
   omega
  ·rw [upd_same] at hgb;rw [upd_other hd v h2'] at hgb'
   have:=(H.lt h1' hgb').2
   have:=hf g hgb
   omega
  ·exact hne rfl
theorem HR.new (H:HR B0 M0 w h hd) (hg:w.grownBy w' none) {v:Value} {k:Blk} {xs:List Value}
  (hk:∀ (i:Nat) (r:List Cell),k.els[i]? = some r -> r.length = k.e) (ho:w'.ownsRow B0 k.ty k.e v k.els.length xs)
  (hx:∀ (i:Nat) (c:Cell) (u:Value),k.els.flatten[i]? = some c -> xs[i]? = some u -> VR w (badOf M0 h hd) h hd c u)
  (hf:∀ g,v.ownBlock = some g -> w.heap.size <= g) (hM:∀ g,M0 g -> g < w.heap.size) (hn:k.nn = false ↔ v = .slice none 0 0) :
  HR B0 M0 w' (h ++ [k]) (upd hd h.length v) /\ Tr w (badOf M0 h hd) h hd w' (badOf M0 (h ++ [k]) (upd hd h.length v)) (h ++ [k]) (upd hd h.length v) :=
 H.new2 hg hk ho (fun i c u hc hu T=>(hx i c u hc hu).tr T) hf hM hn
theorem HR.upd (H:HR B0 M0 w h hd) {b:Nat} {k k':Blk} (hb:h[b]? = some k) (hlive:k.live = true) (hg:w.grownBy w' (hd b).ownBlock) {v:Value} {xs:List Value}
  (hver:(k'.ver = k.ver /\ v = hd b /\ k'.e = k.e) \/ k.ver < k'.ver)
  (hk:∀ (i:Nat) (r:List Cell),k'.els[i]? = some r -> r.length = k'.e) (ho:w'.ownsRow B0 k'.ty k'.e v k'.els.length xs)
  (hx:∀ (i:Nat) (c:Cell) (u:Value),k'.els.flatten[i]? = some c -> xs[i]? = some u -> VR w (badOf M0 h hd) h hd c u)
  (hf:∀ g,v.ownBlock = some g -> (hd b).ownBlock = some g \/ w.heap.size <= g) (hM:∀ g,M0 g -> g < w.heap.size) (hn:k'.nn = false ↔ v = .slice none 0 0) :
  HR B0 M0 w' (h.set b k') (upd hd b v) /\ Tr w (badOf M0 h hd) h hd w' (badOf M0 (h.set b k') (Am.upd hd b v)) (h.set b k') (Am.upd hd b v):=by
 have hlt:b < h.length:=(List.getElem?_eq_some_iff.1 hb).1
 have hinv:∀ (i:Nat) (ki:Blk),(h.set b k')[i]? = some ki -> (h[i]? = some ki /\ i ≠ b) \/ (i = b /\ ki = k'):=fun i ki hi=>by
  rw [List.getElem?_set] at hi
  by_cases e:b = i
  ·subst e;simp [hlt] at hi;exact .inr ⟨rfl,hi.symm⟩
  ·simp [e] at hi;exact .inl ⟨hi,fun x=>e x.symm⟩
 have hset:∀ (i:Nat) (ki:Blk),h[i]? = some ki -> i ≠ b -> (h.set b k')[i]? = some ki:=fun i ki hi hne=>by
  rw [List.getElem?_set_ne (fun e=>hne e.symm)];exact hi
 have hsame:(h.set b k')[b]? = some k':=by simp [hlt]
 have T:Tr w (badOf M0 h hd) h hd w' (badOf M0 (h.set b k') (Am.upd hd b v)) (h.set b k') (Am.upd hd b v):=by
  refine ⟨fun g hbad hl=>hg.block g hl (fun e=>hbad (.inr ⟨b,k,hb,hlive,e.symm⟩)),fun g hbad hl hbad'=>?_,hg.size,fun i ki hi=>?_⟩
  ·rcases hbad' with hm | ⟨i,ki,hki,hlv,hgi⟩
   ·exact hbad (.inl hm)
   ·rcases hinv i ki hki with ⟨h1,h2⟩ | ⟨rfl,rfl⟩
    ·rw [upd_other hd v h2] at hgi
     exact hbad (.inr ⟨i,ki,h1,hlv,hgi⟩)
    ·rw [upd_same] at hgi
     rcases hf g hgi with e | e
     ·exact hbad (.inr ⟨i,k,hb,hlive,e⟩)
     ·omega
  ·by_cases e:i = b
   ·subst e
    obtain rfl:ki = k:=by rw [hb] at hi;exact (Option.some.inj hi).symm
    refine ⟨k',hsame,?_⟩
    rw [upd_same]
    rcases hver with ⟨a,b,c⟩ | a
    ·exact .inl ⟨a,b,c⟩
    ·exact .inr a
   ·exact ⟨ki,hset i ki hi e,.inl ⟨rfl,upd_other hd v e,rfl⟩⟩
 refine ⟨⟨fun i ki hi=>?_,fun i ki hi=>?_,fun i j ki kj hi hj hl hne g hgi hgj=>?_⟩,T⟩
 ·rcases hinv i ki hi with ⟨h1,h2⟩ | ⟨rfl,rfl⟩
  ·obtain ⟨hr,ys,hoy,hvy⟩:=H.blk i ki h1
   rw [upd_other hd v h2]
   refine ⟨hr,ys,hoy.kept hg ?_,fun j c u hc hu=>(hvy j c u hc hu).tr T⟩
   cases e:(hd i).ownBlock with
   | none=>exact .inl rfl
   | some g =>
    refine .inr (fun e'=>?_)
    exact H.apart b i k ki hb h1 hlive (fun x=>h2 x.symm) g (e'.symm) e
  ·rw [upd_same]
   exact ⟨hk,xs,ho,fun j c u hc hu=>(hx j c u hc hu).tr T⟩
 ·rcases hinv i ki hi with ⟨h1,h2⟩ | ⟨rfl,rfl⟩
  ·rw [upd_other hd v h2];exact H.nn i ki h1
  ·rw [upd_same];exact hn
 ·rcases hinv i ki hi with ⟨h1,h2⟩ | ⟨rfl,rfl⟩ <;> rcases hinv j kj hj with ⟨h1',h2'⟩ | ⟨rfl,rfl⟩
  ·rw [upd_other hd v h2] at hgi;rw [upd_other hd v h2'] at hgj
   exact H.apart i j ki kj h1 h1' hl hne g hgi hgj
  ·rw [upd_other hd v h2] at hgi;rw [upd_same] at hgj
   rcases hf g hgj with e | e
   ·exact H.apart i j ki k h1 hb hl hne g hgi e
   ·have:=(H.lt h1 hgi).2;omega
  ·rw [upd_same] at hgi;rw [upd_other hd v h2'] at hgj
   rcases hf g hgi with e | e
   ·exact H.apart i j k kj hb h1' hlive hne g e hgj
   ·have:=(H.lt h1' hgj).2;omega
  ·exact hne rfl
theorem HR.same (H:HR B0 M0 w h hd) (hg:w.grownBy w' none):HR B0 M0 w' h hd /\ Tr w (badOf M0 h hd) h hd w' (badOf M0 h hd) h hd:=by
 have T:Tr w (badOf M0 h hd) h hd w' (badOf M0 h hd) h hd:=HR.tr_grown hg (fun g e=>by simp at e)
 refine ⟨⟨fun b k hb=>?_,H.nn,H.apart⟩,T⟩
 obtain ⟨hr,xs,ho,hv⟩:=H.blk b k hb
 exact ⟨hr,xs,ho.kept hg (by cases e:(hd b).ownBlock <;> simp),fun i c u hc hu=>(hv i c u hc hu).tr T⟩
end Go.Am
namespace Go.Am
open Go.RowKit
inductive COp where
 | mv (x:Operand)
 | pick (c a b:Operand)
 | new (ty:TypeId) (zs:List Value)
 | box (ty:TypeId) (x:Operand)
 | build (zs:List Value) (parts:List (Nat × Nat × Operand))
 | mkrow (ty:TypeId) (e:Nat) (parts:List Operand)
 | load (n:Nat) (ag:Bool) (x:Operand)
 | store (n:Nat) (x y:Operand)
 | bin (op:BinOp) (x y:Operand)
 | isnil (fn neg:Bool) (x:Operand)
 | beq (neg:Bool) (x y:Operand)
 | aggeq (neg:Bool) (n:Nat) (x y:Operand)
 | un (op:UnOp) (x:Operand)
 | conv (k:IntKind) (x:Operand)
 | bstr (x:Operand)
 | mkfn (f:FuncId) (caps:List Operand)
 | mkmeth (f:FuncId) (x:Operand)
 | make (ty:TypeId) (e by':Nat) (zs:List Value) (l c:Operand)
 | slice (e:Nat) (x:Operand) (lo hi mx:Option Operand)
 | sslice (x:Operand) (lo hi:Option Operand)
 | faddr (off:Nat) (x:Operand)
 | field (off n:Nat) (ag:Bool) (x:Operand)
 | iaddr (e:Nat) (arr:Option Nat) (x i:Operand)
 | sidx (x i:Operand)
 | ext (x:Operand) (i:Nat)
 | len (str:Bool) (x:Operand)
 | append (ty:TypeId) (e by':Nat) (x y:Operand)
 | copy (e:Nat) (x y:Operand)
 | mm (max:Bool) (x y:Operand)
 | callf (f:Operand) (args:List Operand)
 | cutc (e:Nat) (x:Operand) (lo hi mx:Option Operand)
 | mkrowc (e:Nat) (parts:List Operand)
 | fill (ty:TypeId) (zs:List Value)
 | makec (e by':Nat) (zs:List Value) (l c:Operand)
def szOf (P:Program) (t:TypeId):Option Nat:=(P.info? t).map (·.size)
def aggT (P:Program) (t:TypeId):Option Bool:=(P.underlying t).map fun d=>match d with | .struct _ | .array _ _=>true | _=>false
def zeroT (P:Program) (t:TypeId):Option (List Value):=((P.info? t).bind (·.zero)).map (·.cells.toList)
def isNilSlice:Operand -> Bool
 | .const (.slice none 0 0)=>true
 | _=>false
def isNilFunc:Operand -> Bool
 | .const .nilFunc=>true
 | _=>false
def strFields (P:Program):(i:Nat) -> List Field -> Bool
 | _,[]=>true
 | i, f :: fs => f.name != "_" && f.offset == i && (match P.underlying f.type with | some .string => true | _ => false) && strFields P (i + 1) fs
def copEq (P:Program) (neg:Bool) (t:TypeId) (x y:Operand):Option COp :=
 match P.underlying t with
 | some .bool=>some (.beq neg x y)
 | some (.int _) | some .string=>some (.bin (if neg then .neq else .eql) x y)
 | some (.slice _)=>if isNilSlice y then some (.isnil false neg x) else none
 | some (.func ..)=>if isNilFunc y then some (.isnil true neg x) else none
 | some (.struct fs)=>if strFields P 0 fs.toList && !P.stoodInHeld t && !P.eqGuardType P.depth t then some (.aggeq neg fs.size x y) else none
 | _=>none
def cop (P:Program) (o:Oper):Option COp :=
 match o.op with
 | .move x | .assign x=>some (.mv x)
 | .pick c a b=>some (.pick c a b)
 | .alloc t=>(zeroT P t).bind fun zs=>if zs.all (·.oneCell') then some (.new t zs) else none
 | .box t x=>some (.box t x)
 | .build t parts =>
  match P.underlying t,zeroT P t with
  | some (.struct fs),some zs =>
   if zs.all (·.oneCell') && fs.all (fun f=>(szOf P f.type).isSome) then (parts.toList.mapM fun (p:Nat × Operand)=>(fs[p.1]?).bind fun f=>(szOf P f.type).map fun s=>(f.offset,s,p.2)).bind fun ps =>
    some (.build zs ps) else none
  | some (.array _ e),some zs=>if zs.all (·.oneCell') then (szOf P e).map fun s=>.build zs (parts.toList.map fun p=>(p.1 * s,s,p.2)) else none
  | _,_=>none
 | .buildSlice t len parts =>
  match P.underlying t with
  | some (.slice e) =>
   match szOf P e,zeroT P e with
   | some s,some zs=>if parts.toList.map (·.1) = List.range len /\ len * s <= 2 ^ 24 /\ zs.length = s /\ 0 < s /\ len <= maxLen then some (.mkrow e s (parts.toList.map (·.2))) else none
   | _,_=>none
  | _=>none
 | .load t x =>
  match szOf P t,aggT P t with
  | some n,some ag=>if ag || n == 1 then some (.load n ag x) else none
  | _,_=>none
 | .store t x y=>if o.dst.isNone then (szOf P t).map fun n=>.store n x y else none
 | .binOp .eql t x y _=>copEq P false t x y
 | .binOp .neq t x y _=>copEq P true t x y
 | .binOp op _ x y _=>some (.bin op x y)
 | .unOp op _ x=>some (.un op x)
 | .convert s d x =>
  match P.underlying s,P.underlying d with
  | some (.int _),some (.int k)=>some (.conv k x)
  | some (.slice e),some .string=>match P.underlying e with | some (.int .u8)=>some (.bstr x) | _=>none
  | _,_=>none
 | .makeFunc (.func f) first caps=>if first.isEmpty then some (.mkfn f caps.toList) else match first.toList,caps.toList with | [x],[]=>some (.mkmeth f x) | _,_=>none
 | .makeSlice t l c =>
  match P.underlying t with
  | some (.slice e) =>
   match P.info? e with
   | some i=>match i.zero with
    | some z=>if z.cells.size = i.size /\ 0 < i.size /\ z.cells.all (·.oneCell') then some (.make e i.size i.bytes z.cells.toList l c) else none
    | none=>none
   | none=>none
  | _=>none
 | .slice t x lo hi mx =>
  match P.underlying t with
  | some (.slice e)=>(szOf P e).map fun s=>.slice s x lo hi mx
  | some .string=>if mx.isNone then some (.sslice x lo hi) else none
  | _=>none
 | .fieldAddr s x f =>
  match P.underlying s with
  | some (.struct fs)=>(fs[f]?).bind fun f=>(szOf P f.type).bind fun n=>if n = 0 then none else some (.faddr f.offset x)
  | _=>none
 | .nilCheck x=>some (.faddr 0 x)
 | .field s x f =>
  match P.underlying s with
  | some (.struct fs)=>(fs[f]?).bind fun f =>
   match szOf P f.type,aggT P f.type with
   | some n,some ag=>if ag || n == 1 then some (.field f.offset n ag x) else none
   | _,_=>none
  | _=>none
 | .indexAddr t x i =>
  match P.underlying t with
  | some (.slice e)=>(szOf P e).map fun s=>.iaddr s none x i
  | some (.array n e)=>(szOf P e).map fun s=>.iaddr s (some n) x i
  | _=>none
 | .index t x i=>match P.underlying t with | some .string=>some (.sidx x i) | _=>none
 | .extract x i=>some (.ext x i)
 | .call { callee:=.builtin .len,args,argTypes } =>
  match args.toList,argTypes.toList with
  | [x],[t]=>match P.underlying t with | some (.slice _)=>some (.len false x) | some .string=>some (.len true x) | _=>none
  | _,_=>none
 | .call { callee:=.builtin .append,args,argTypes } =>
  match args.toList,argTypes.toList with
  | [x,y],[t,u] =>
   match P.underlying t,P.underlying u with
   | some (.slice e),some (.slice _) =>
    match P.info? e with
    | some i=>match i.zero with
     | some z=>if z.cells.size = i.size /\ 0 < i.size then some (.append e i.size i.bytes x y) else none
     | none=>none
    | none=>none
   | _,_=>none
  | _,_=>none
 | .call { callee:=.builtin .copy,args,argTypes } =>
  match args.toList,argTypes.toList with
  | [x,y],[t,_]=>match P.underlying t with | some (.slice e)=>(szOf P e).bind fun s=>if 0 < s then some (.copy s x y) else none | _=>none
  | _,_=>none
 | .call { callee:=.builtin .max,args,.. }=>match args.toList with | [x,y]=>some (.mm true x y) | _=>none
 | .call { callee:=.builtin .min,args,.. }=>match args.toList with | [x,y]=>some (.mm false x y) | _=>none
 | .call { callee:=.value f,args,.. }=>some (.callf f args.toList)
 | _=>none
def constAV:Value -> AV
 | .agg cs=>if cs.toList.all (·.oneCell') then .agg (cs.toList.map fun v=>.c (.val v)) else .junk
 | .tuple _=>.junk
 | .string s=>.one (.c (.str s.data.toList))
 | v=>.one (.c (.val v))
def St.ev (st:St):Operand -> AV
 | .tmp t=>st.t.getD t .junk
 | .const v=>constAV v
 | .global _=>.junk
 | .func f=>.one (.fn f [])
def AV.cells?:AV -> Option (List Cell)
 | .one x=>some [x]
 | .agg l=>some l
 | _=>none
def AV.bool?:AV -> Option Bool
 | .one (.c (.val (.bool b)))=>some b
 | _=>none
def AV.int?:AV -> Option (IntKind × Int)
 | .one (.c (.val (.int k n)))=>some (k,n)
 | _=>none
def AV.str?:AV -> Option (List UInt8)
 | .one (.c (.str s))=>some s
 | _=>none
def mkAV (ag:Bool) (cs:List Cell):Option AV :=
 if ag then some (.agg cs) else match cs with | [x]=>some (.one x) | _=>none
def readN (h:List Blk) (n:Nat):AV -> Option (List Cell)
 | .one (.ptr b ver i off) =>
  match h[b]? with
  | some k=>if ver = k.ver then
    match k.els[i]? with
    | some r=>if off + n <= r.length then some ((r.drop off).take n) else none
    | none=>none
   else none
  | none=>none
 | .one (.iptr l)=>if n <= l.length then some ((l.take n).map .c) else none
 | _=>none
def putN (h:List Blk) (cs:List Cell):AV -> Option (List Blk)
 | .one (.ptr b ver i off) =>
  match h[b]? with
  | some k=>if ver = k.ver /\ k.live = true then
    match k.els[i]? with
    | some r=>if off + cs.length <= r.length then some (h.set b { k with els:=k.els.set i (r.take off ++ cs ++ r.drop (off + cs.length)) }) else none
    | none=>none
   else none
  | none=>none
 | _=>none
def elems (h:List Blk) (e:Nat):AV -> Option (List (List Cell))
 | .one (.own b ver)=>match h[b]? with | some k=>if ver = k.ver /\ k.e = e then some k.els else none | none=>none
 | .one (.c (.sl e' l))=>if e' = e then some (l.map (·.map .c)) else none
 | .one (.slx e' l)=>if e' = e then some (l.map (·.map .c)) else none
 | .one (.c (.val (.slice none 0 0)))=>some []
 | _=>none
def lenAV (h:List Blk) (str:Bool):AV -> Option Nat
 | .one (.own b ver)=>if str then none else match h[b]? with | some k=>if ver = k.ver /\ 0 < k.e then some k.els.length else none | none=>none
 | .one (.c (.sl _ l))=>if str then none else some l.length
 | .one (.slx _ l)=>if str then none else some l.length
 | .one (.c (.str s))=>if str then some s.length else none
 | .one (.c (.val (.slice none 0 0)))=>if str then none else some 0
 | _=>none
def intBin (op:BinOp) (k:IntKind) (x y:Int):Option Value :=
 match op with
 | .add=>some (.int k (k.wrap (x + y)))
 | .sub=>some (.int k (k.wrap (x - y)))
 | .mul=>some (.int k (k.wrap (x * y)))
 | .quo=>if y = 0 then none else some (.int k (k.wrap (x.tdiv y)))
 | .rem=>if y = 0 then none else some (.int k (x.tmod y))
 | .and=>some (.int k (k.wrap (BitVec.ofInt k.bits x &&& BitVec.ofInt k.bits y).toNat))
 | .or=>some (.int k (k.wrap (BitVec.ofInt k.bits x ||| BitVec.ofInt k.bits y).toNat))
 | .xor=>some (.int k (k.wrap (BitVec.ofInt k.bits x ^^^ BitVec.ofInt k.bits y).toNat))
 | .eql=>some (.bool (x == y))
 | .neq=>some (.bool (x != y))
 | .lss=>some (.bool (x < y))
 | .leq=>some (.bool (x <= y))
 | .gtr=>some (.bool (x > y))
 | .geq=>some (.bool (x >= y))
 | _=>none
def binAV (op:BinOp):AV -> AV -> Option AV
 | .one (.c (.val (.int k a))),.one (.c (.val (.int k' b))) =>
  match op with
  | .shl=>if b < 0 then none else some (.one (.c (.val (.int k (k.wrap (a * 2 ^ (min b.toNat k.bits)))))))
  | .shr=>if b < 0 then none else some (.one (.c (.val (.int k (a.fdiv (2 ^ (min b.toNat k.bits)))))))
  | op=>if k = k' then (intBin op k a b).map fun v=>.one (.c (.val v)) else none
 | .one (.c (.str a)),.one (.c (.str b)) =>
  match op with
  | .add=>if a.length + b.length <= 9223372036854775807 then some (.one (.c (.str (a ++ b)))) else none
  | .eql=>some (.one (.c (.val (.bool (a == b)))))
  | .neq=>some (.one (.c (.val (.bool (!(a == b))))))
  | .lss=>some (.one (.c (.val (.bool (Op.bytesLess a b)))))
  | _=>none
 | _,_=>none
def isNilAV (h:List Blk) (fn:Bool):AV -> Option Bool
 | .one (.c (.sl _ _)) | .one (.slx _ _)=>if fn then none else some false
 | .one (.c (.val (.slice none 0 0)))=>if fn then none else some true
 | .one (.own b ver)=>if fn then none else match h[b]? with | some k=>if ver = k.ver /\ 0 < k.e then some (!k.nn) else none | none=>none
 | .one (.fn _ _)=>if fn then some false else none
 | .one (.c (.val .nilFunc))=>if fn then some true else none
 | _=>none
def strCells:List Cell -> Option (List (List UInt8))
 | []=>some []
 | .c (.str s) :: r=>(strCells r).map (s :: ·)
 | _=>none
def bound (top:Nat) (df:Nat):Option AV -> Option Nat
 | none=>some df
 | some x=>match x.int? with | some (_,i)=>if 0 <= i /\ i <= top then some i.toNat else none | none=>none
def byteCells:List (List Cell) -> Option (List UInt8)
 | []=>some []
 | [.c (.val (.int .u8 n))] :: r=>(byteCells r).map (UInt8.ofNat n.toNat :: ·)
 | _=>none
def evs (st:St):List Operand -> List AV:=List.map st.ev
def closedCells:List Cell -> Option (List CV)
 | []=>some []
 | .c x :: r=>(closedCells r).map (x :: ·)
 | _=>none
def cutcAV (e:Nat) (x:AV) (lo hi mx:Option AV):Option AV :=
 match x with
 | .one (.c (.sl e' l))=>if e' = e then
   (match mx with
    | none=>(bound l.length l.length hi).bind fun h=>(bound h 0 lo).map fun lw=>.one (.c (.sl e ((l.take h).drop lw)))
    | some m=>(bound l.length 0 (some m)).bind fun mm=>(bound mm 0 hi).bind fun h=>(bound h 0 lo).bind fun lw =>
         if lw = 0 /\ h = mm /\ hi.isSome /\ 0 < h then some (.one (.slx e (l.take h))) else none)
  else none
 | .one (.c (.val (.slice none 0 0))) =>
  if mx.isNone then (bound 0 0 hi).bind fun h=>(bound 0 0 lo).map fun _=>.one (.c (.val (.slice none 0 0))) else none
 | _=>none
def phIdx:List Blk -> Option Nat
 | []=>none
 | k :: h=>if k.e = 0 /\ k.ver = 0 /\ k.live = true /\ k.nn = false /\ k.els = [] then some 0 else (phIdx h).map (· + 1)
def cstep (st:St):COp -> Option (AV × List Blk)
 | .mv x=>some (st.ev x,st.h)
 | .pick c a b=>(st.ev c).bool?.map fun t=>(if t then st.ev a else st.ev b,st.h)
 | .new ty zs=>some (.one (.ptr st.h.length 0 0 0),st.h ++ [⟨0,ty,zs.length,[zs.map fun v=>.c (.val v)],true,true⟩])
 | .box ty x=>(st.ev x).cells?.map fun cs=>(.one (.ptr st.h.length 0 0 0),st.h ++ [⟨0,ty,cs.length,[cs],true,true⟩])
 | .build zs parts =>
  (parts.foldlM (fun cs p=>(st.ev p.2.2).cells?.bind fun pc=>if pc.length = p.2.1 /\ p.1 + pc.length <= cs.length then some (cs.take p.1 ++ pc ++ cs.drop (p.1 + pc.length)) else none) (zs.map fun v=>Cell.c (.val v))).map fun cs=>(.agg cs,st.h)
 | .mkrow ty e parts =>
  (parts.mapM fun p=>(st.ev p).cells?.bind fun cs=>if cs.length = e then some cs else none).map fun rows=>(.one (.own st.h.length 0),st.h ++ [⟨0,ty,e,rows,true,true⟩])
 | .load n ag x=>(readN st.h n (st.ev x)).bind fun cs=>(mkAV ag cs).map fun v=>(v,st.h)
 | .store n x y=>(st.ev y).cells?.bind fun cs=>if cs.length = n then (putN st.h cs (st.ev x)).map fun h=>(.junk,h) else none
 | .bin op x y=>(binAV op (st.ev x) (st.ev y)).map fun v=>(v,st.h)
 | .beq neg x y =>
  match (st.ev x).bool?,(st.ev y).bool? with
  | some a,some b=>some (.one (.c (.val (.bool (if neg then !(a == b) else a == b)))),st.h)
  | _,_=>none
 | .isnil fn neg x=>(isNilAV st.h fn (st.ev x)).map fun b=>(.one (.c (.val (.bool (if neg then !b else b)))),st.h)
 | .aggeq neg n x y =>
  match st.ev x,st.ev y with
  | .agg a,.agg b=>(strCells a).bind fun s=>(strCells b).bind fun t=>if s.length = n /\ t.length = n then some (.one (.c (.val (.bool (if neg then !(s == t) else s == t)))),st.h) else none
  | _,_=>none
 | .un op x =>
  match op,st.ev x with
  | .not,.one (.c (.val (.bool b)))=>some (.one (.c (.val (.bool (!b)))),st.h)
  | .neg,.one (.c (.val (.int k n)))=>some (.one (.c (.val (.int k (k.wrap (0 - n))))),st.h)
  | _,_=>none
 | .conv k x=>(st.ev x).int?.map fun n=>(.one (.c (.val (.int k (k.wrap n.2)))),st.h)
 | .bstr x=>(elems st.h 1 (st.ev x)).bind fun es=>(byteCells es).map fun bs=>(.one (.c (.str bs)),st.h)
 | .mkfn f caps=>(caps.mapM fun p=>match st.ev p with | .one c=>some c | _=>none).map fun cs=>(.one (.fn f cs),st.h)
 | .mkmeth f x=>match st.ev x with | .one c=>some (.one (.mfn f c),st.h) | _=>none
 | .make ty e by' zs l c =>
  match (st.ev l).int?,(st.ev c).int? with
  | some (_,n),some (_,m)=>if n = m /\ 0 <= n /\ n * by' <= 140737488355328 /\ n <= 9223372036854775807 then
    some (.one (.own st.h.length 0),st.h ++ [⟨0,ty,e,List.replicate n.toNat (zs.map fun v=>.c (.val v)),true,true⟩]) else none
  | _,_=>none
 | .slice e x lo hi mx =>
  match st.ev x with
  | .one (.c (.sl e' l))=>if e' = e then
    (match mx with
     | none=>(bound l.length l.length (hi.map st.ev)).bind fun h=>(bound h 0 (lo.map st.ev)).map fun lw=>(.one (.c (.sl e ((l.take h).drop lw))),st.h)
     | some m=>(bound l.length 0 (some (st.ev m))).bind fun mm=>(bound mm 0 (hi.map st.ev)).bind fun h=>(bound h 0 (lo.map st.ev)).bind fun lw =>
          if lw = 0 /\ h = mm /\ hi.isSome /\ 0 < h then some (.one (.slx e (l.take h)),st.h) else none)
   else none
  | .one (.c (.val (.slice none 0 0))) =>
   if mx.isNone then (bound 0 0 (hi.map st.ev)).bind fun h=>(bound 0 0 (lo.map st.ev)).map fun _=>(.one (.c (.val (.slice none 0 0))),st.h) else none
  | .one (.own b ver) =>
   match st.h[b]?,lo,mx with
   | some k,none,none=>if ver = k.ver /\ k.e = e /\ k.live = true then
     (bound k.els.length k.els.length (hi.map st.ev)).map fun h=>(.one (.own b (k.ver + 1)),st.h.set b { k with ver:=k.ver + 1,els:=k.els.take h }) else none
   | _,_,_=>none
  | _=>none
 | .sslice x lo hi=>(st.ev x).str?.bind fun s=>(bound s.length s.length (hi.map st.ev)).bind fun h=>(bound h 0 (lo.map st.ev)).map fun lw=>(.one (.c (.str ((s.take h).drop lw))),st.h)
 | .faddr off x =>
  match st.ev x with
  | .one (.ptr b ver i o)=>match st.h[b]? with | some k=>if ver = k.ver /\ 0 < k.e then some (.one (.ptr b ver i (o + off)),st.h) else none | none=>none
  | .one (.iptr l)=>some (.one (.iptr (l.drop off)),st.h)
  | _=>none
 | .field off n ag x =>
  match st.ev x with
  | .agg cs=>if off + n <= cs.length then (mkAV ag ((cs.drop off).take n)).map fun v=>(v,st.h) else none
  | _=>none
 | .iaddr e arr x i =>
  match (st.ev i).int? with
  | some (_,j) =>
   match arr,st.ev x with
   | none,.one (.own b ver) =>
    match st.h[b]? with
    | some k=>if ver = k.ver /\ k.e = e /\ 0 <= j /\ j < k.els.length then some (.one (.ptr b ver j.toNat 0),st.h) else none
    | none=>none
   | none,.one (.c (.sl e' l))=>if e' = e /\ 0 <= j then (match l[j.toNat]? with | some r=>some (.one (.iptr r),st.h) | none=>none) else none
   | none,.one (.slx e' l)=>if e' = e /\ 0 <= j then (match l[j.toNat]? with | some r=>some (.one (.iptr r),st.h) | none=>none) else none
   | some n,.one (.ptr b ver i' off)=>match st.h[b]? with | some k=>if ver = k.ver /\ 0 < k.e /\ 0 <= j /\ j < n then some (.one (.ptr b ver i' (off + j.toNat * e)),st.h) else none | none=>none
   | some n,.one (.iptr l)=>if 0 <= j /\ j < n then some (.one (.iptr (l.drop (j.toNat * e))),st.h) else none
   | _,_=>none
  | none=>none
 | .sidx x i =>
  match (st.ev x).str?,(st.ev i).int? with
  | some s,some (_,j)=>if 0 <= j then (s[j.toNat]?).map fun b=>(.one (.c (.val (.int .u8 b.toNat))),st.h) else none
  | _,_=>none
 | .ext x i=>match st.ev x with | .tup l=>(l[i]?).map fun v=>(v,st.h) | _=>none
 | .len str x=>(lenAV st.h str (st.ev x)).map fun (n:Nat)=>(.one (.c (.val (.int .i64 (n:Int)))),st.h)
 | .append ty e by' x y =>
  (elems st.h e (st.ev y)).bind fun ys =>
   match st.ev x with
   | .one (.own b ver) =>
    match st.h[b]? with
    | some k=>if ver = k.ver /\ k.e = e /\ k.ty = ty /\ k.live = true /\ k.els.length + ys.length <= 9223372036854775807 /\ (k.els.length + ys.length) * by' <= 140737488355328 then
      some (.one (.own b (k.ver + 1)),st.h.set b { k with ver:=k.ver + 1,els:=k.els ++ ys,nn:=k.nn || !ys.isEmpty }) else none
    | none=>none
   | .one (.c (.val (.slice none 0 0))) =>
    if ys.length <= 9223372036854775807 /\ ys.length * by' <= 140737488355328 then some (.one (.own st.h.length 0),st.h ++ [⟨0,ty,e,ys,true,!ys.isEmpty⟩]) else none
   | .one (.slx e' l) =>
    if e' = e /\ ys ≠ [] /\ l.length + ys.length <= 9223372036854775807 /\ (l.length + ys.length) * by' <= 140737488355328 then
     some (.one (.own st.h.length 0),st.h ++ [⟨0,ty,e,l.map (·.map .c) ++ ys,true,true⟩]) else none
   | _=>none
 | .copy e x y =>
  (elems st.h e (st.ev y)).bind fun ys =>
   match st.ev x with
   | .one (.own b ver) =>
    match st.h[b]? with
    | some k=>if ver = k.ver /\ k.e = e /\ k.live = true then
      some (.one (.c (.val (.int .i64 (min ys.length k.els.length:Nat)))),st.h.set b { k with els:=ys.take k.els.length ++ k.els.drop ys.length }) else none
    | none=>none
   | _=>none
 | .mm mx x y =>
  match st.ev x,st.ev y with
  | .one (.c (.val (.int k a))),.one (.c (.val (.int _ b)))=>some (.one (.c (.val (.int k (if mx then (if b > a then b else a) else (if b < a then b else a))))),st.h)
  | _,_=>none
 | .callf ..=>none
 | .cutc e x lo hi mx=>(cutcAV e (st.ev x) (lo.map st.ev) (hi.map st.ev) (mx.map st.ev)).map fun v=>(v,st.h)
 | .makec e by' zs l c =>
  match (st.ev l).int?,(st.ev c).int? with
  | some (_,n),some (_,m)=>if n = m /\ 0 <= n /\ n * by' <= 140737488355328 /\ n <= 9223372036854775807 then
    some (.one (.c (.sl e (List.replicate n.toNat (zs.map .val)))),st.h) else none
  | _,_=>none
 | .mkrowc e parts=>(parts.mapM fun p=>(st.ev p).cells?.bind fun cs=>if cs.length = e then closedCells cs else none).map fun rows=>(.one (.c (.sl e rows)),st.h)
 | .fill ty zs=>(phIdx st.h).map fun b=>(.one (.ptr b 1 0 0),st.h.set b ⟨1,ty,zs.length,[zs.map fun v=>.c (.val v)],true,true⟩)
end Go.Am
namespace Go.Am
open Go.RowKit
variable {P:Program} {w w1 w2 w':World} {M0:Nat -> Prop} {h h1 h2 h':List Blk} {hd hd1 hd2 hd':Nat -> Value} {B0:Nat}
theorem addr_add (g o n:Nat):(⟨g,o,none⟩:Addr).add n = ⟨g,o + n,none⟩:=by unfold Addr.add;split <;> simp_all
def RowOk (h:List Blk) (hd:Nat -> Value) (row:Option Nat):Prop:=∀ g,row = some g -> ∃ (b:Nat) (k:Blk),h[b]? = some k /\ k.live = true /\ (hd b).ownBlock = some g
theorem rowOk_none:RowOk h hd none:=fun g e=>by cases e
def GV (P:Program) (B0:Nat) (M0:Nat -> Prop) (w:World) (h:List Blk) (hd:Nat -> Value) (s:Sem Value) (av:AV) (h':List Blk):Prop :=
 ∃ v w' hd' row,s.run P w = .ok v w' /\ w.grownBy w' row /\ RowOk h hd row /\ HR B0 M0 w' h' hd' /\ Tr w (badOf M0 h hd) h hd w' (badOf M0 h' hd') h' hd' /\ AVR w' (badOf M0 h' hd') h' hd' av v
theorem grownBy_refl (w:World) (row:Option Nat):w.grownBy w row:=⟨rfl,rfl,rfl,Nat.le_refl _,fun _ _ _=>rfl⟩
theorem GV.quiet (H:HR B0 M0 w h hd) {s:Sem Value} {av:AV} {v:Value} (hr:s.run P w = .ok v w) (ha:AVR w (badOf M0 h hd) h hd av v):GV P B0 M0 w h hd s av h :=
 ⟨v,w,hd,none,hr,grownBy_refl w none,rowOk_none,H,.refl _ _ _ _,ha⟩
theorem AVR.cells {bad:Nat -> Prop} {x:AV} {v:Value} {cs:List Cell} (hx:AVR w bad h hd x v) (hc:x.cells? = some cs) :
  v.cells.toList.length = cs.length /\ ∀ (i:Nat) (c:Cell) (u:Value),cs[i]? = some c -> v.cells.toList[i]? = some u -> VR w bad h hd c u:=by
 cases hx with
 | one c v hv =>
  simp only [AV.cells?,Option.some.injEq] at hc
  subst hc
  have h1:=hv.oneCell
  have e:v.cells = #[v]:=by cases v <;> first | rfl | simp [Value.oneCell'] at h1
  rw [e]
  refine ⟨rfl,fun i c' u hi hu=>?_⟩
  match i with
  | 0=>simp at hi hu;subst hi;subst hu;exact hv
  | i + 1=>simp at hi
 | agg l vs hl hv =>
  simp only [AV.cells?,Option.some.injEq] at hc
  subst hc
  exact ⟨by simp [Value.cells,hl],fun i c u hi hu=>hv i c u hi (by simpa [Value.cells] using hu)⟩
 | tup l vs hl hv=>simp [AV.cells?] at hc
 | junk v=>simp [AV.cells?] at hc
theorem AVR.bool {bad:Nat -> Prop} {x:AV} {v:Value} {b:Bool} (hx:AVR w bad h hd x v) (hc:x.bool? = some b):v = .bool b:=by
 unfold AV.bool? at hc
 split at hc
 ·simp only [Option.some.injEq] at hc;subst hc;cases hx with | one _ _ hv=>cases hv with | c _ _ hc=>cases hc;rfl
 ·cases hc
theorem AVR.int {bad:Nat -> Prop} {x:AV} {v:Value} {p:IntKind × Int} (hx:AVR w bad h hd x v) (hc:x.int? = some p):v = .int p.1 p.2:=by
 unfold AV.int? at hc
 split at hc
 ·simp only [Option.some.injEq] at hc;subst hc;cases hx with | one _ _ hv=>cases hv with | c _ _ hc=>cases hc;rfl
 ·cases hc
theorem AVR.str {bad:Nat -> Prop} {x:AV} {v:Value} {s:List UInt8} (hx:AVR w bad h hd x v) (hc:x.str? = some s):v = .string ⟨s.toArray⟩:=by
 unfold AV.str? at hc
 split at hc
 ·simp only [Option.some.injEq] at hc;subst hc;cases hx with | one _ _ hv=>cases hv with | c _ _ hc=>cases hc;rfl
 ·cases hc
theorem AVR.val {bad:Nat -> Prop} {x v:Value} (hx:AVR w bad h hd (.one (.c (.val x))) v):v = x:=by
 cases hx with | one _ _ hv=>cases hv with | c _ _ hc=>cases hc;rfl
theorem avr_val {bad:Nat -> Prop} {x:Value} (h1:x.oneCell' = true):AVR w bad h hd (.one (.c (.val x))) x:=.one _ _ (.c _ _ (.val _ h1))
theorem flat_get {α:Type} {e:Nat}:∀ (els:List (List α)) (i j:Nat) (r:List α),(∀ (i:Nat) (r:List α),els[i]? = some r -> r.length = e) -> els[i]? = some r -> j < e -> els.flatten[i * e + j]? = r[j]?
 | [],i,j,r,_,hi,_=>by simp at hi
 | x :: els,0,j,r,hr,hi,hj=>by
  simp at hi;subst hi
  have:=hr 0 x rfl
  simp only [List.flatten_cons,Nat.zero_mul,Nat.zero_add]
  rw [List.getElem?_append_left (by omega)]
 | x :: els,i + 1,j,r,hr,hi,hj=>by
  have hx:=hr 0 x rfl
  simp only [List.flatten_cons,List.getElem?_cons_succ] at hi ⊢
  rw [List.getElem?_append_right (by rw [hx,Nat.add_mul];omega),hx,show (i + 1) * e + j - e = i * e + j by rw [Nat.add_mul];omega]
  exact flat_get els i j r (fun i r hi=>hr (i + 1) r (by simpa using hi)) hi hj
theorem flat_len {α:Type} {e:Nat}:∀ (els:List (List α)),(∀ (i:Nat) (r:List α),els[i]? = some r -> r.length = e) -> els.flatten.length = els.length * e
 | [],_=>by simp
 | x :: els,hr=>by
  have hx:=hr 0 x rfl
  rw [List.flatten_cons,List.length_append,flat_len els (fun i r hi=>hr (i + 1) r (by simpa using hi)),hx,List.length_cons,Nat.add_mul]
  omega
def Lies (w:World) (bad:Nat -> Prop) (h:List Blk) (hd:Nat -> Value) (g o:Nat) (cs:List Cell):Prop :=
 ∀ (j:Nat) (c:Cell),cs[j]? = some c -> ∃ u,w.cell? ⟨g,o + j,none⟩ = some u /\ VR w bad h hd c u
theorem Lies.drop {bad:Nat -> Prop} {g o n:Nat} {cs:List Cell} (hl:Lies w bad h hd g o cs):Lies w bad h hd g (o + n) (cs.drop n):=fun j c hj=>by
 rw [List.getElem?_drop] at hj
 obtain ⟨u,h1,h2⟩:=hl _ c hj
 exact ⟨u,by rw [show o + n + j = o + (n + j) by omega];exact h1,h2⟩
theorem Lies.take {bad:Nat -> Prop} {g o n:Nat} {cs:List Cell} (hl:Lies w bad h hd g o cs):Lies w bad h hd g o (cs.take n):=fun j c hj=>by
 rw [List.getElem?_take] at hj
 split at hj
 ·exact hl j c hj
 ·cases hj
theorem HR.lies (H:HR B0 M0 w h hd) {b:Nat} {k:Blk} (hb:h[b]? = some k) {i:Nat} {r:List Cell} (hi:k.els[i]? = some r) {g n cap:Nat} (hh:hd b = .slice (some ⟨g,0,none⟩) n cap) :
  Lies w (badOf M0 h hd) h hd g (i * k.e) r:=by
 obtain ⟨hr,xs,ho,hv⟩:=H.blk b k hb
 intro j c hj
 have hjlt:j < k.e:=by rw [<- hr i r hi];exact (List.getElem?_eq_some_iff.1 hj).1
 have hfl:=flat_get k.els i j r hr hi hjlt
 rw [hj] at hfl
 have hlt:i * k.e + j < xs.length:=by
  rw [ho.1,<- flat_len k.els hr];exact (List.getElem?_eq_some_iff.1 hfl).1
 refine ⟨xs[i * k.e + j],?_,hv _ c _ hfl (List.getElem?_eq_getElem hlt)⟩
 have:=ho.cells (g:=g) (by rw [hh];rfl) (i * k.e + j) _ (List.getElem?_eq_getElem hlt)
 rwa [addr_add,Nat.zero_add] at this
theorem HR.hasRow (H:HR B0 M0 w h hd) {b:Nat} {k:Blk} (hb:h[b]? = some k) {i:Nat} {r:List Cell} (hi:k.els[i]? = some r) :
  ∃ g cap,hd b = .slice (some ⟨g,0,none⟩) k.els.length cap:=by
 obtain ⟨hr,xs,ho,hv⟩:=H.blk b k hb
 have:=(List.getElem?_eq_some_iff.1 hi).1
 rcases ho.2 with ⟨_,hn⟩ | ⟨g,cap,cur,hh,_⟩
 ·omega
 ·exact ⟨g,cap,hh⟩
theorem CR.lies_row {bad:Nat -> Prop} {e:Nat} {l:List (List CV)} {g off len cap:Nat} (hx:CR w bad (.sl e l) (.slice (some ⟨g,off,none⟩) len cap)) {i:Nat} {r:List CV} (hi:l[i]? = some r) :
  ¬ bad g /\ g < w.heap.size /\ r.length = e /\ ∃ f:Nat -> Value,(∀ (j:Nat) (x:CV),r[j]? = some x -> w.cell? ⟨g,off + i * e + j,none⟩ = some (f j)) /\ (∀ (j:Nat) (x:CV),r[j]? = some x -> CR w bad x (f j)):=by
 cases hx with
 | sl _ _ _ _ _ f hcap hbad hlt hrow hc hv =>
  have hl:=(List.getElem?_eq_some_iff.1 hi).1
  refine ⟨hbad,hlt,hrow i r hi,f i,fun j x hj=>?_,fun j x hj=>hv i j r x hi hj⟩
  rw [show off + i * e + j = off + (i * e + j) by omega]
  exact hc i j hl (by rw [<- hrow i r hi];exact (List.getElem?_eq_some_iff.1 hj).1)
 | emp=>simp at hi
theorem readN_lies (H:HR B0 M0 w h hd) {n:Nat} {x:AV} {v:Value} {cs:List Cell} (hx:AVR w (badOf M0 h hd) h hd x v) (hr:readN h n x = some cs) :
  cs.length = n /\ ∃ g o,v = .pointer (some ⟨g,o,none⟩) /\ Lies w (badOf M0 h hd) h hd g o cs:=by
 unfold readN at hr
 split at hr
 ·rename_i b ver i off
  cases hk:h[b]? with
  | none=>simp [hk] at hr
  | some k =>
   simp only [hk] at hr
   split at hr
   ·rename_i hver
    cases hi:k.els[i]? with
    | none=>simp [hi] at hr
    | some r =>
     simp only [hi] at hr
     split at hr
     ·rename_i hle
      simp only [Option.some.injEq] at hr
      subst hr
      obtain ⟨g,cap,hh⟩:=H.hasRow hk hi
      refine ⟨by simp;omega,g,i * k.e + off,?_,((H.lies hk hi hh).drop (n:=off)).take⟩
      cases hx with
      | one _ _ hv =>
       cases hv with
       | ptr b i off blk g' n' cap' hb hh' =>
        obtain rfl:blk = k:=by rw [hk] at hb;exact (Option.some.inj hb).symm
        rw [hh] at hh';cases hh';rfl
       | ptrStale b ver i off blk v hb hlt h1 =>
        obtain rfl:blk = k:=by rw [hk] at hb;exact (Option.some.inj hb).symm
        omega
     ·cases hr
   ·cases hr
 ·rename_i l
  split at hr
  ·rename_i hle
   simp only [Option.some.injEq] at hr
   subst hr
   refine ⟨by simp;omega,?_⟩
   cases hx with
   | one _ _ hv =>
    cases hv with
    | iptr _ g off f hbad hlt hc hv =>
     refine ⟨g,off,rfl,fun j c hj=>?_⟩
     rw [List.getElem?_map,List.getElem?_take] at hj
     split at hj
     ·cases hlj:l[j]? with
      | none=>simp [hlj] at hj
      | some x =>
       simp [hlj] at hj
       subst hj
       exact ⟨f j,hc j x hlj,.c _ _ (hv j x hlj)⟩
     ·simp at hj
  ·cases hr
 ·cases hr
theorem mkAV_of {bad:Nat -> Prop} {ag:Bool} {cs:List Cell} {av:AV} (hm:mkAV ag cs = some av) {vs:List Value} (hl:cs.length = vs.length)
  (hv:∀ (i:Nat) (c:Cell) (u:Value),cs[i]? = some c -> vs[i]? = some u -> VR w bad h hd c u) :
  (ag = true /\ AVR w bad h hd av (.agg vs.toArray)) \/ (ag = false /\ ∃ v,vs = [v] /\ AVR w bad h hd av v):=by
 unfold mkAV at hm
 split at hm
 ·rename_i hag
  simp only [Option.some.injEq] at hm
  subst hm
  exact .inl ⟨hag,.agg cs vs hl hv⟩
 ·rename_i hag
  refine .inr ⟨by simpa using hag,?_⟩
  split at hm
  ·rename_i x
   simp only [Option.some.injEq] at hm
   subst hm
   match vs,hl with
   | [v],_=>exact ⟨v,rfl,.one _ _ (hv 0 x v rfl rfl)⟩
  ·cases hm
theorem run_loadVar_lies {t:TypeId} {n:Nat} {ag:Bool} (hn:szOf P t = some n) (ha:aggT P t = some ag) {bad:Nat -> Prop} {g o:Nat} {cs:List Cell} (hcs:cs.length = n)
  (hl:Lies w bad h hd g o cs) {av:AV} (hm:mkAV ag cs = some av) (h1:ag = true \/ n = 1):∃ v,(loadVar t ⟨g,o,none⟩).run P w = .ok v w /\ AVR w bad h hd av v:=by
 have hcell:∀ j,j < n -> ∃ u,w.cell? ((⟨g,o,none⟩:Addr).add j) = some u /\ ∀ c,cs[j]? = some c -> VR w bad h hd c u:=fun j hj=>by
  obtain ⟨u,h1,h2⟩:=hl j cs[j] (List.getElem?_eq_getElem (by omega))
  exact ⟨u,by rw [addr_add];exact h1,fun c hc=>by rw [List.getElem?_eq_getElem (by omega)] at hc;cases hc;exact h2⟩
 have hf:∃ f:Nat -> Value,∀ j,j < n -> w.cell? ((⟨g,o,none⟩:Addr).add j) = some (f j) /\ ∀ c,cs[j]? = some c -> VR w bad h hd c (f j):=by
  refine ⟨fun j=>if hj:j < n then (hcell j hj).choose else undef,fun j hj=>?_⟩
  simp only [hj,dif_pos]
  exact (hcell j hj).choose_spec
 obtain ⟨f,hf⟩:=hf
 have hrun:=run_loadCells (P:=P) w ⟨g,o,none⟩ n f (fun j hj=>(hf j hj).1)
 unfold szOf at hn
 unfold aggT at ha
 cases hi:P.info? t with
 | none=>simp [hi] at hn
 | some inf =>
  simp only [hi,Option.map_some,Option.some.injEq] at hn
  cases hu:P.underlying t with
  | none=>simp [hu] at ha
  | some d =>
   have hag:(isAgg t).run P w = .ok ag w:=by
    simp only [hu,Option.map_some,Option.some.injEq] at ha
    subst ha
    cases d <;> simp [isAgg,run_underlying hu,Result.andThen]
   have hmk:=mkAV_of (w:=w) (h:=h) (hd:=hd) (bad:=bad) hm (vs:=(List.range n).map f) (by simp [hcs]) (fun i c u hc hu=>by
    rw [List.getElem?_map,List.getElem?_range (by have:=(List.getElem?_eq_some_iff.1 hc).1;omega)] at hu
    simp at hu
    subst hu
    exact (hf i (by have:=(List.getElem?_eq_some_iff.1 hc).1;omega)).2 c hc)
   rcases hmk with ⟨rfl,hv⟩ | ⟨rfl,v,hvs,hv⟩
   ·refine ⟨_,?_,hv⟩
    simp [loadVar,hag,sizeOf,typeInfo,hi,hn,hrun,Result.andThen]
   ·have hn1:n = 1:=by rcases h1 with h | h;· cases h
                       ·exact h
    subst hn1
    simp [List.range_succ] at hvs
    subst hvs
    have:=(hf 0 (by omega)).1
    rw [addr_add,Nat.add_zero] at this
    exact ⟨_,by simp [loadVar,hag,run_load,this,Result.andThen],hv⟩
end Go.Am
namespace Go.Am
open Go.RowKit
variable {P:Program} {w w1 w2 w':World} {M0:Nat -> Prop} {h h1 h2 h':List Blk} {hd hd1 hd2 hd':Nat -> Value} {B0:Nat}
def PW {α β:Type} (R:α -> β -> Prop) (l:List α) (vs:List β):Prop:=l.length = vs.length /\ ∀ (i:Nat) (c:α) (v:β),l[i]? = some c -> vs[i]? = some v -> R c v
theorem PW.nil {α β:Type} {R:α -> β -> Prop}:PW R [] []:=⟨rfl,fun i c v hc=>by simp at hc⟩
theorem PW.cons {α β:Type} {R:α -> β -> Prop} {c:α} {v:β} {l:List α} {vs:List β} (h0:R c v) (hh:PW R l vs):PW R (c :: l) (v :: vs) :=
 ⟨by simp [hh.1],fun i x u hx hu=>by
  cases i with
  | zero=>simp at hx hu;subst hx;subst hu;exact h0
  | succ i=>exact hh.2 i x u (by simpa using hx) (by simpa using hu)⟩
theorem PW.append {α β:Type} {R:α -> β -> Prop} {l l':List α} {vs vs':List β} (a:PW R l vs) (b:PW R l' vs'):PW R (l ++ l') (vs ++ vs') :=
 ⟨by simp [a.1,b.1],fun i x u hx hu=>by
  rw [List.getElem?_append] at hx hu
  by_cases hi:i < l.length
  ·rw [if_pos hi] at hx;rw [if_pos (by rw [<- a.1];exact hi)] at hu;exact a.2 i x u hx hu
  ·rw [if_neg hi] at hx;rw [if_neg (by rw [<- a.1];exact hi),<- a.1] at hu;exact b.2 _ x u hx hu⟩
theorem PW.take {α β:Type} {R:α -> β -> Prop} {l:List α} {vs:List β} (a:PW R l vs) (n:Nat):PW R (l.take n) (vs.take n) :=
 ⟨by simp [a.1],fun i x u hx hu=>by
  rw [List.getElem?_take] at hx hu
  split at hx
  ·rename_i hi;rw [if_pos hi] at hu;exact a.2 i x u hx hu
  ·cases hx⟩
theorem PW.drop {α β:Type} {R:α -> β -> Prop} {l:List α} {vs:List β} (a:PW R l vs) (n:Nat):PW R (l.drop n) (vs.drop n) :=
 ⟨by simp [a.1],fun i x u hx hu=>by
  rw [List.getElem?_drop] at hx hu
  exact a.2 _ x u hx hu⟩
theorem PW.mono {α β:Type} {R R':α -> β -> Prop} {l:List α} {vs:List β} (a:PW R l vs) (hh:∀ c v,R c v -> R' c v):PW R' l vs:=⟨a.1,fun i c v hc hv=>hh _ _ (a.2 i c v hc hv)⟩
theorem HR.pw (H:HR B0 M0 w h hd) {b:Nat} {k:Blk} (hb:h[b]? = some k) :
  (∀ (i:Nat) (r:List Cell),k.els[i]? = some r -> r.length = k.e) /\ ∃ xs:List Value,w.ownsRow B0 k.ty k.e (hd b) k.els.length xs /\ PW (VR w (badOf M0 h hd) h hd) k.els.flatten xs:=by
 obtain ⟨hr,xs,ho,hv⟩:=H.blk b k hb
 exact ⟨hr,xs,ho,by rw [flat_len k.els hr,ho.1],hv⟩
theorem flatten_set_splice {α:Type} {e:Nat} (cs:List α):∀ (els:List (List α)) (i off:Nat) (r:List α),(∀ (i:Nat) (r:List α),els[i]? = some r -> r.length = e) -> els[i]? = some r -> off + cs.length <= e ->
  (els.set i (r.take off ++ cs ++ r.drop (off + cs.length))).flatten = els.flatten.take (i * e + off) ++ cs ++ els.flatten.drop (i * e + off + cs.length)
 | [],i,off,r,_,hi,_=>by simp at hi
 | x :: els,0,off,r,hr,hi,hoff=>by
  simp at hi;subst hi
  have:=hr 0 x rfl
  simp only [List.set_cons_zero,List.flatten_cons,Nat.zero_mul,Nat.zero_add]
  rw [List.take_append_of_le_length (by omega),List.drop_append_of_le_length (by omega)]
  simp [List.append_assoc]
 | x :: els,i + 1,off,r,hr,hi,hoff=>by
  have hx:=hr 0 x rfl
  have ih:=flatten_set_splice cs els i off r (fun i r hi=>hr (i + 1) r (by simpa using hi)) (by simpa using hi) hoff
  simp only [List.set_cons_succ,List.flatten_cons,ih]
  have e1:(i + 1) * e + off = x.length + (i * e + off):=by rw [hx,Nat.add_mul];omega
  rw [e1,List.take_length_add_append,Nat.add_assoc x.length,List.drop_length_add_append]
  simp [List.append_assoc]
theorem gv_load (H:HR B0 M0 w h hd) {t:TypeId} {n:Nat} {ag:Bool} (hn:szOf P t = some n) (ha:aggT P t = some ag) (h1:ag = true \/ n = 1) {x:AV} {v:Value}
  (hx:AVR w (badOf M0 h hd) h hd x v) {cs:List Cell} (hr:readN h n x = some cs) {av:AV} (hm:mkAV ag cs = some av):GV P B0 M0 w h hd (Instr.loadAt t v) av h:=by
 obtain ⟨hcs,g,o,rfl,hl⟩:=readN_lies H hx hr
 obtain ⟨u,hrun,hu⟩:=run_loadVar_lies hn ha hcs hl hm h1
 exact GV.quiet H (by simp [Instr.loadAt,Instr.sureAddr,hrun,Result.andThen]) hu
def GU (P:Program) (B0:Nat) (M0:Nat -> Prop) (w:World) (h:List Blk) (hd:Nat -> Value) (s:Sem Unit) (h':List Blk):Prop :=
 ∃ w' hd' row,s.run P w = .ok () w' /\ w.grownBy w' row /\ RowOk h hd row /\ HR B0 M0 w' h' hd' /\ Tr w (badOf M0 h hd) h hd w' (badOf M0 h' hd') h' hd'
theorem ownBlock_slice {g n cap:Nat} {v:Value} (h:v = .slice (some ⟨g,0,none⟩) n cap):v.ownBlock = some g:=by subst h;rfl
theorem HR.splice (H:HR B0 M0 w h hd) (hM:∀ g,M0 g -> g < w.heap.size) {b:Nat} {k:Blk} (hb:h[b]? = some k) (hlive:k.live = true) {g n cap:Nat} (hh:hd b = .slice (some ⟨g,0,none⟩) n cap)
  {o:Nat} {cs:List Cell} {vs:List Value} (hv:PW (VR w (badOf M0 h hd) h hd) cs vs) (hfit:o + cs.length <= k.els.length * k.e) {els':List (List Cell)} (hlen:els'.length = k.els.length)
  (hrow:∀ (i:Nat) (r:List Cell),els'[i]? = some r -> r.length = k.e) (hfl:els'.flatten = k.els.flatten.take o ++ cs ++ k.els.flatten.drop (o + cs.length)) :
  ∃ w',(storeCells ⟨g,o,none⟩ vs).run P w = .ok () w' /\ w.grownBy w' (some g) /\ RowOk h hd (some g) /\
   ∃ hd',HR B0 M0 w' (h.set b { k with els:=els' }) hd' /\ Tr w (badOf M0 h hd) h hd w' (badOf M0 (h.set b { k with els:=els' }) hd') (h.set b { k with els:=els' }) hd':=by
 obtain ⟨hr,xs,ho,hpw⟩:=H.pw hb
 have hvl:=hv.1
 rcases ho.2 with ⟨hnil,_⟩ | ⟨g',cap',cur,hhd,hBg,hg,hnc,hcm,hcs,htake⟩
 ·rw [hh] at hnil;cases hnil
 ·have heq:=hhd
  rw [hh] at heq
  simp only [Value.slice.injEq,Option.some.injEq,Addr.mk.injEq,and_true] at heq
  obtain ⟨rfl,rfl,rfl⟩:=heq
  have hle:k.els.length * k.e <= cur.size:=by rw [hcs];exact Nat.mul_le_mul_right _ hnc
  have h1:∀ v ∈ vs,v.oneCell' = true:=fun v hv'=>by
   obtain ⟨i,hi,rfl⟩:=List.getElem_of_mem hv'
   exact (hv.2 i cs[i] _ (List.getElem?_eq_getElem (by omega)) (List.getElem?_eq_getElem hi)).oneCell
  have hst:=run_storeCells_at P g o k.ty vs 0 cur w hg (by simpa [<- hvl] using (by omega:o + cs.length <= cur.size)) h1
  simp only [Nat.add_zero] at hst
  refine ⟨_,hst,⟨rfl,rfl,rfl,by simp [World.setRow],fun i hi hne=>setRow_other w g i _ (fun e=>hne (by simp [e]))⟩,fun g' e=>⟨b,k,hb,hlive,by rw [hh];simpa [Value.ownBlock] using e⟩,?_⟩
  have hlc:cur.toList.length = cur.size:=by simp
  have hown:(w.setRow g (cur.toList.take o ++ vs ++ cur.toList.drop (o + vs.length)).toArray).ownsRow B0 k.ty k.e (hd b) els'.length (xs.take o ++ vs ++ xs.drop (o + vs.length)):=by
   refine ⟨?_,.inr ⟨g,cap,_,by rw [hh,hlen],hBg,setRow_heap w g cur _ k.ty _ hg,by rw [hlen];exact hnc,hcm,?_,?_⟩⟩
   ·have:=ho.1
    rw [hlen]
    simp only [List.length_append,List.length_take,List.length_drop]
    omega
   ·simp only [List.size_toArray,List.length_append,List.length_take,List.length_drop]
    omega
   ·rw [hlen,<- htake]
    simp only [List.toList_toArray]
    rw [List.take_take,List.drop_take]
    have:min o (k.els.length * k.e) = o:=by omega
    rw [this]
    apply List.ext_getElem?
    intro i
    simp only [List.getElem?_take,List.getElem?_append,List.getElem?_drop,List.length_append,List.length_take,hlc]
    by_cases hi:i < k.els.length * k.e
    ·rw [if_pos hi]
     by_cases h2:i < min o cur.size + vs.length
     ·simp [h2]
     ·simp only [if_neg h2]
      rw [if_pos (by omega)]
    ·rw [if_neg hi]
     rw [if_neg (by omega),if_neg (by omega)]
  have key:=H.upd (k':={ k with els:=els' }) hb hlive (w':=w.setRow g (cur.toList.take o ++ vs ++ cur.toList.drop (o + vs.length)).toArray)
   (by rw [hh];exact ⟨rfl,rfl,rfl,by simp [World.setRow],fun i hi hne=>setRow_other w g i _ (fun e=>hne (by simp [Value.ownBlock,e]))⟩)
   (v:=hd b) (xs:=xs.take o ++ vs ++ xs.drop (o + vs.length)) (.inl ⟨rfl,rfl,rfl⟩) hrow hown
   (by
    have hp:=((hpw.take o).append hv).append (hpw.drop (o + cs.length))
    rw [<- hfl] at hp
    rw [<- hvl]
    exact hp.2) (fun g hg=>.inl hg) hM (H.nn b k hb)
  exact ⟨_,key.1,key.2⟩
theorem gu_store (H:HR B0 M0 w h hd) (hM:∀ g,M0 g -> g < w.heap.size) {t:TypeId} {n:Nat} (hn:szOf P t = some n) {x y:AV} {u v:Value}
  (hx:AVR w (badOf M0 h hd) h hd x u) (hy:AVR w (badOf M0 h hd) h hd y v) {cs:List Cell} (hc:y.cells? = some cs) (hl:cs.length = n) (hp:putN h cs x = some h') :
  GU P B0 M0 w h hd (Instr.storeAt t u v) h':=by
 obtain ⟨hvl,hvv⟩:=hy.cells hc
 unfold putN at hp
 split at hp
 ·rename_i b ver i off
  cases hk:h[b]? with
  | none=>simp [hk] at hp
  | some k =>
   simp only [hk] at hp
   split at hp
   ·rename_i hver
    obtain ⟨hver,hlive⟩:=hver
    cases hi:k.els[i]? with
    | none=>simp [hi] at hp
    | some r =>
     simp only [hi] at hp
     split at hp
     ·rename_i hle
      simp only [Option.some.injEq] at hp
      subst hp
      obtain ⟨hr,xs,ho,hpw⟩:=H.pw hk
      obtain ⟨g,cap,hh⟩:=H.hasRow hk hi
      have hre:=hr i r hi
      have hil:=(List.getElem?_eq_some_iff.1 hi).1
      have hbound:i * k.e + off + cs.length <= k.els.length * k.e:=by
       have:(i + 1) * k.e <= k.els.length * k.e:=Nat.mul_le_mul_right _ (by omega)
       rw [Nat.add_mul] at this
       omega
      have hu:u = .pointer (some ⟨g,i * k.e + off,none⟩):=by
       cases hx with
       | one _ _ hv =>
        cases hv with
        | ptr b i off blk g' n' cap' hb hh' =>
         obtain rfl:blk = k:=by rw [hk] at hb;exact (Option.some.inj hb).symm
         rw [hh] at hh';cases hh';rfl
        | ptrStale b ver i off blk v hb hlt h1 =>
         obtain rfl:blk = k:=by rw [hk] at hb;exact (Option.some.inj hb).symm
         omega
      subst hu
      obtain ⟨w',hrun,hg,hro,hd',hH,hT⟩:=H.splice (P:=P) hM hk hlive hh (o:=i * k.e + off) (cs:=cs) (vs:=v.cells.toList) ⟨hvl.symm,hvv⟩ hbound
       (els':=k.els.set i (r.take off ++ cs ++ r.drop (off + cs.length))) (by simp)
       (fun j q hj=>by
        rw [List.getElem?_set] at hj
        by_cases e:i = j
        ·rw [if_pos e,if_pos (e ▸ hil)] at hj
         simp only [Option.some.injEq] at hj;subst hj;simp;omega
        ·rw [if_neg e] at hj
         exact hr j q hj) (flatten_set_splice cs k.els i off r hr hi (by omega))
      refine ⟨w',hd',_,?_,hg,hro,hH,hT⟩
      unfold szOf at hn
      cases hq:P.info? t with
      | none=>simp [hq] at hn
      | some inf =>
       simp only [hq,Option.map_some,Option.some.injEq] at hn
       have:v.cells.size = n:=by rw [<- hl,<- hvl];simp
       simp [Instr.storeAt,Instr.sureAddr,storeVar,sizeOf,typeInfo,hq,hn,this,hrun,Result.andThen]
     ·cases hp
   ·cases hp
 ·cases hp
theorem gv_new (H:HR B0 M0 w h hd) (hM:∀ g,M0 g -> g < w.heap.size) (hB:B0 <= w.heap.size) {t:TypeId} {cs:List Cell} {vs:List Value} (hpw:PW (VR w (badOf M0 h hd) h hd) cs vs) {s:Sem Value}
  (hs:s.run P w = .ok (.pointer (some ⟨w.heap.size,0,none⟩)) (w.alloc (.cells vs.toArray t))) :
  GV P B0 M0 w h hd s (.one (.ptr h.length 0 0 0)) (h ++ [⟨0,t,cs.length,[cs],true,true⟩]):=by
 have hown:(w.alloc (.cells vs.toArray t)).ownsRow B0 t cs.length (.slice (some ⟨w.heap.size,0,none⟩) 1 1) 1 vs.toArray.toList :=
  World.ownsRow_lit w vs.toArray 1 hB (by simp [maxLen]) (by simp [hpw.1])
 have key:=H.new (World.grownBy_alloc w (.cells vs.toArray t) none) (k:=⟨0,t,cs.length,[cs],true,true⟩) (v:=.slice (some ⟨w.heap.size,0,none⟩) 1 1) (xs:=vs)
  (fun i r hi=>by
   cases i with
   | zero=>simp at hi;subst hi;rfl
   | succ i=>simp at hi) (by simpa using hown) (by simpa using hpw.2) (fun g hg=>by simp [Value.ownBlock] at hg;omega) hM (by simp)
 refine ⟨_,_,_,none,hs,World.grownBy_alloc w _ none,rowOk_none,key.1,key.2,.one _ _ ?_⟩
 have:=VR.ptr (w:=w.alloc (.cells vs.toArray t)) (bad:=badOf M0 (h ++ [⟨0,t,cs.length,[cs],true,true⟩]) (Am.upd hd h.length (.slice (some ⟨w.heap.size,0,none⟩) 1 1))) (h:=h ++ [⟨0,t,cs.length,[cs],true,true⟩])
  (hd:=Am.upd hd h.length (.slice (some ⟨w.heap.size,0,none⟩) 1 1)) h.length 0 0 ⟨0,t,cs.length,[cs],true,true⟩ w.heap.size 1 1 (by simp) (upd_same _ _ _)
 simpa using this
theorem zero_pw {bad:Nat -> Prop} {zs:List Value} (hz:zs.all (·.oneCell') = true):PW (VR w bad h hd) (zs.map fun v=>Cell.c (.val v)) zs :=
 ⟨by simp,fun i c v hc hv=>by
  rw [List.getElem?_map,hv] at hc
  simp at hc
  subst hc
  exact .c _ _ (.val _ (by rw [List.all_eq_true] at hz;exact hz v (List.mem_of_getElem? hv)))⟩
theorem AVR.pw {bad:Nat -> Prop} {x:AV} {v:Value} {cs:List Cell} (hx:AVR w bad h hd x v) (hc:x.cells? = some cs):PW (VR w bad h hd) cs v.cells.toList :=
 ⟨(hx.cells hc).1.symm,(hx.cells hc).2⟩
theorem gv_alloc (H:HR B0 M0 w h hd) (hM:∀ g,M0 g -> g < w.heap.size) (hB:B0 <= w.heap.size) {t:TypeId} {zs:List Value} (hz:zeroT P t = some zs) (h1:zs.all (·.oneCell') = true) :
  GV P B0 M0 w h hd (Instr.alloc t true (.tuple #[])) (.one (.ptr h.length 0 0 0)) (h ++ [⟨0,t,zs.length,[zs.map fun v=>.c (.val v)],true,true⟩]):=by
 unfold zeroT at hz
 cases hi:P.info? t with
 | none=>simp [hi] at hz
 | some i =>
  cases hq:i.zero with
  | none=>simp [hi,hq] at hz
  | some z =>
   simp only [hi,hq,Option.bind_some,Option.map_some,Option.some.injEq] at hz
   have:=gv_new (P:=P) (t:=t) H hM hB (zero_pw (w:=w) (bad:=badOf M0 h hd) (h:=h) (hd:=hd) h1) (s:=Instr.alloc t true (.tuple #[]))
    (by simp [Instr.alloc,zeroValue,typeInfo,hi,hq,newVar,newRow,Result.andThen,<- hz])
   simpa using this
theorem gv_box (H:HR B0 M0 w h hd) (hM:∀ g,M0 g -> g < w.heap.size) (hB:B0 <= w.heap.size) {t:TypeId} {x:AV} {v:Value} (hx:AVR w (badOf M0 h hd) h hd x v) {cs:List Cell} (hc:x.cells? = some cs) :
  GV P B0 M0 w h hd (Instr.box t v) (.one (.ptr h.length 0 0 0)) (h ++ [⟨0,t,cs.length,[cs],true,true⟩]) :=
 gv_new H hM hB (hx.pw hc) (by simp [Instr.box,newVar,newRow,Result.andThen])
theorem gv_row (H:HR B0 M0 w h hd) (hM:∀ g,M0 g -> g < w.heap.size) {t:TypeId} {e:Nat} {els:List (List Cell)} {xs:List Value} (hrow:∀ (i:Nat) (r:List Cell),els[i]? = some r -> r.length = e)
  (hpw:PW (VR w (badOf M0 h hd) h hd) els.flatten xs) {s:Sem Value} {v:Value} (hs:s.run P w = .ok v w') (hg:w.grownBy w' none) (ho:w'.ownsRow B0 t e v els.length xs)
  (hf:∀ g,v.ownBlock = some g -> w.heap.size <= g) {nn:Bool} (hn:nn = false ↔ v = .slice none 0 0):GV P B0 M0 w h hd s (.one (.own h.length 0)) (h ++ [⟨0,t,e,els,true,nn⟩]):=by
 have key:=H.new hg (k:=⟨0,t,e,els,true,nn⟩) (v:=v) (xs:=xs) hrow ho hpw.2 hf hM hn
 refine ⟨_,_,_,none,hs,hg,rowOk_none,key.1,key.2,.one _ _ ?_⟩
 have:=VR.own (w:=w') (bad:=badOf M0 (h ++ [⟨0,t,e,els,true,nn⟩]) (Am.upd hd h.length v)) (h:=h ++ [⟨0,t,e,els,true,nn⟩]) (hd:=Am.upd hd h.length v) h.length ⟨0,t,e,els,true,nn⟩ (by simp) (by rw [upd_same];exact ownsRow_one ho)
 rwa [upd_same] at this
end Go.Am
namespace Go.Am
open Go.RowKit
variable {P:Program} {w w1 w2 w':World} {M0:Nat -> Prop} {h h1 h2 h':List Blk} {hd hd1 hd2 hd':Nat -> Value} {B0:Nat} {bad:Nat -> Prop}
theorem Lies.append {g o:Nat} {a b:List Cell} (ha:Lies w bad h hd g o a) (hb:Lies w bad h hd g (o + a.length) b):Lies w bad h hd g o (a ++ b):=fun j c hj=>by
 rw [List.getElem?_append] at hj
 split at hj
 ·exact ha j c hj
 ·obtain ⟨u,h1,h2⟩:=hb _ c hj
  exact ⟨u,by rw [show o + j = o + a.length + (j - a.length) by omega];exact h1,h2⟩
theorem Lies.flatten {g e:Nat}:∀ (ys:List (List Cell)) (off:Nat),(∀ (i:Nat) (r:List Cell),ys[i]? = some r -> r.length = e) -> (∀ (i:Nat) (r:List Cell),ys[i]? = some r -> Lies w bad h hd g (off + i * e) r) ->
  Lies w bad h hd g off ys.flatten
 | [],_,_,_=>fun j c hj=>by simp at hj
 | r0 :: ys,off,hr,hl=>by
  rw [List.flatten_cons]
  have h0:=hl 0 r0 rfl
  simp only [Nat.zero_mul,Nat.add_zero] at h0
  refine h0.append ?_
  have he:=hr 0 r0 rfl
  refine Lies.flatten ys _ (fun i r hi=>hr (i + 1) r (by simpa using hi)) (fun i r hi=>?_)
  have:=hl (i + 1) r (by simpa using hi)
  rwa [show off + (i + 1) * e = off + r0.length + i * e by rw [he,Nat.add_mul];omega] at this
theorem Lies.values {g:Nat}:∀ (cs:List Cell) (o:Nat),Lies w bad h hd g o cs -> ∃ vs:List Value,PW (VR w bad h hd) cs vs /\ ∀ (j:Nat) (u:Value),vs[j]? = some u -> w.cell? ⟨g,o + j,none⟩ = some u
 | [],_,_=>⟨[],.nil,fun j u hj=>by simp at hj⟩
 | c :: cs,o,hl=>by
  obtain ⟨u,h1,h2⟩:=hl 0 c rfl
  obtain ⟨vs,hp,hc⟩:=Lies.values cs (o + 1) (fun j c' hj=>by
   obtain ⟨u,a,b⟩:=hl (j + 1) c' (by simpa using hj)
   exact ⟨u,by rw [show o + 1 + j = o + (j + 1) by omega];exact a,b⟩)
  refine ⟨u :: vs,hp.cons h2,fun j v hj=>?_⟩
  cases j with
  | zero=>simp at hj;subst hj;exact h1
  | succ j=>rw [show o + (j + 1) = o + 1 + j by omega];exact hc j v (by simpa using hj)
theorem elems_lies (H:HR B0 M0 w h hd) {e:Nat} {x:AV} {v:Value} {ys:List (List Cell)} (hx:AVR w (badOf M0 h hd) h hd x v) (he:elems h e x = some ys) :
  (∀ (i:Nat) (r:List Cell),ys[i]? = some r -> r.length = e) /\
   ((v = .slice none 0 0 /\ ys = []) \/ (∃ g off cap,v = .slice (some ⟨g,off,none⟩) ys.length cap /\ ys.length <= cap /\ Lies w (badOf M0 h hd) h hd g off ys.flatten) \/ (ys = [] /\ ∃ a,v = .slice (some a) 0 0)):=by
 have closed:∀ (l:List (List CV)) (g off cap:Nat),CR w (badOf M0 h hd) (.sl e l) (.slice (some ⟨g,off,none⟩) l.length cap) ->
   (∀ (i:Nat) (r:List Cell),(l.map (·.map Cell.c))[i]? = some r -> r.length = e) /\ Lies w (badOf M0 h hd) h hd g off (l.map (·.map Cell.c)).flatten:=fun l g off cap hx=>by
  have inv:∀ (i:Nat) (r:List Cell),(l.map (·.map Cell.c))[i]? = some r -> ∃ r':List CV,l[i]? = some r' /\ r = r'.map .c:=fun i r hi=>by
   rw [List.getElem?_map] at hi
   cases hl:l[i]? with
   | none=>simp [hl] at hi
   | some r'=>simp [hl] at hi;exact ⟨r',rfl,hi.symm⟩
  have rows:∀ (i:Nat) (r:List Cell),(l.map (·.map Cell.c))[i]? = some r -> r.length = e:=fun i r hi=>by
   obtain ⟨r',hr',rfl⟩:=inv i r hi
   rw [List.length_map];exact (hx.lies_row hr').2.2.1
  refine ⟨rows,Lies.flatten _ _ rows (fun i r hi=>?_)⟩
  obtain ⟨r',hr',rfl⟩:=inv i r hi
  obtain ⟨_,_,_,f,hc,hv⟩:=hx.lies_row hr'
  intro j c hj
  rw [List.getElem?_map] at hj
  cases hq:r'[j]? with
  | none=>simp [hq] at hj
  | some q=>simp [hq] at hj;subst hj;exact ⟨f j,hc j q hq,.c _ _ (hv j q hq)⟩
 unfold elems at he
 split at he
 ·rename_i b ver
  cases hk:h[b]? with
  | none=>simp [hk] at he
  | some k =>
   simp only [hk] at he
   split at he
   ·rename_i hver
    obtain ⟨hver,hke⟩:=hver
    simp only [Option.some.injEq] at he
    subst he
    obtain ⟨hr,xs,ho,hpw⟩:=H.pw hk
    refine ⟨fun i r hi=>by rw [hr i r hi,hke],?_⟩
    have hv:v = hd b:=by
     cases hx with
     | one _ _ hv =>
      cases hv with
      | own b blk hb h1=>rfl
      | ownStale b ver blk v hb hlt h1 =>
       obtain rfl:blk = k:=by rw [hk] at hb;exact (Option.some.inj hb).symm
       omega
    rcases ho.2 with ⟨hn,h0⟩ | ⟨g,cap,cur,hh,_,hg,hnc,_⟩
    ·exact .inl ⟨hv.trans hn,List.eq_nil_of_length_eq_zero h0⟩
    ·refine .inr (.inl ⟨g,0,cap,hv.trans hh,hnc,Lies.flatten _ _ hr (fun i r hi=>?_)⟩)
     rw [Nat.zero_add]
     exact H.lies hk hi hh
   ·cases he
 ·rename_i e' l
  split at he
  ·rename_i hee
   subst hee
   simp only [Option.some.injEq] at he
   subst he
   cases hx with
   | one _ _ hv =>
    cases hv with
    | c _ _ hc =>
     have hc':=hc
     cases hc with
     | sl _ _ g off cap f hcap hbad hlt hrow hcc hvv =>
      obtain ⟨a,b⟩:=closed l g off cap hc'
      exact ⟨a,.inr (.inl ⟨g,off,cap,by rw [List.length_map],by simpa using hcap,b⟩)⟩
     | emp _ a=>exact ⟨fun i r hi=>by simp at hi,.inr (.inr ⟨rfl,a,rfl⟩)⟩
  ·cases he
 ·rename_i e' l
  split at he
  ·rename_i hee
   subst hee
   simp only [Option.some.injEq] at he
   subst he
   cases hx with
   | one _ _ hv =>
    cases hv with
    | slx _ _ g off hc =>
     obtain ⟨a,b⟩:=closed l g off _ hc
     exact ⟨a,.inr (.inl ⟨g,off,_,by rw [List.length_map],by simp,b⟩)⟩
  ·cases he
 ·simp only [Option.some.injEq] at he
  subst he
  exact ⟨fun i r hi=>by simp at hi,.inl ⟨hx.val,rfl⟩⟩
 ·cases he
theorem append_types {t u e e':TypeId} (ht:P.underlying t = some (.slice e)) (hu:P.underlying u = some (.slice e')) (ty:TypeId) (x y:Value) :
  (Builtin.append_ #[t,u] ty #[x,y]).run P w = (Builtin.append_ #[t,t] ty #[x,y]).run P w:=by
 cases x <;> simp [Builtin.append_,run_underlying ht,run_underlying hu,Result.andThen]
theorem maxLen_eq:maxLen = 9223372036854775807:=by simp [maxLen]
theorem PW.oneCell {cs:List Cell} {vs:List Value} (hp:PW (VR w bad h hd) cs vs):∀ u ∈ vs,u.oneCell' = true:=fun v hv'=>by
 obtain ⟨i,hi,rfl⟩:=List.getElem_of_mem hv'
 exact (hp.2 i (cs[i]'(by rw [hp.1];exact hi)) _ (List.getElem?_eq_getElem _) (List.getElem?_eq_getElem hi)).oneCell
theorem rows_append {e:Nat} {a b:List (List Cell)} (ha:∀ (i:Nat) (r:List Cell),a[i]? = some r -> r.length = e) (hb:∀ (i:Nat) (r:List Cell),b[i]? = some r -> r.length = e) :
  ∀ (i:Nat) (r:List Cell),(a ++ b)[i]? = some r -> r.length = e:=fun i r hi=>by
 rw [List.getElem?_append] at hi
 split at hi
 ·exact ha i r hi
 ·exact hb _ r hi
theorem run_append_mine (H:HR B0 M0 w h hd) (hB:B0 <= w.heap.size) {t u ty e e':TypeId} {i:TypeInfo} {z:Value} (ht:P.underlying t = some (.slice e)) (hu:P.underlying u = some (.slice e')) (hi:P.info? e = some i) (hz:i.zero = some z)
  (hzs:z.cells.size = i.size) (hsz:0 < i.size) {v:Value} {n:Nat} {xs:List Value} (hown:w.ownsRow B0 e i.size v n xs) {y:AV} {vy:Value} {ys:List (List Cell)}
  (hy:AVR w (badOf M0 h hd) h hd y vy) (hey:elems h i.size y = some ys) (h63:n + ys.length <= 9223372036854775807) (hb:(n + ys.length) * i.bytes <= 140737488355328) :
  ∃ v' w' news,(Builtin.append_ #[t,u] ty #[v,vy]).run P w = .ok v' w' /\ w'.ownsRow B0 e i.size v' (n + ys.length) (xs ++ news) /\ w.grownBy w' v.ownBlock /\ PW (VR w (badOf M0 h hd) h hd) ys.flatten news /\
   (∀ g,v'.ownBlock = some g -> v.ownBlock = some g \/ w.heap.size <= g) /\ (v' = .slice none 0 0 ↔ v = .slice none 0 0 /\ ys = []):=by
 obtain ⟨hrow,hcase⟩:=elems_lies H hy hey
 have own':∀ (v':Value) (w':World) (m:Nat) (ns:List Value),w'.ownsRow B0 e i.size v' m ns -> w.grownBy w' v.ownBlock -> (∀ g,v'.ownBlock = some g -> v.ownBlock = some g \/ w.heap.size <= g) \/ True:=fun _ _ _ _ _ _=>.inr trivial
 rcases hcase with ⟨rfl,rfl⟩ | ⟨g,off,cap,rfl,hcap,hl⟩ | ⟨rfl,ad,rfl⟩
 ·refine ⟨v,w,[],?_,by simpa using hown,grownBy_refl _ _,.nil,fun g hg=>.inl hg,by simp⟩
  rw [append_types ht hu]
  exact run_append_owned_none w B0 t ty e i i.size ht hi v n xs hown
 rotate_left
 ·refine ⟨v,w,[],?_,by simpa using hown,grownBy_refl _ _,.nil,fun g hg=>.inl hg,by simp⟩
  rw [append_types ht hu]
  have hlc:∀ (a:Addr),(loadCells a 0).run P w = .ok #[] w:=fun a=>by simpa using run_loadCells_list (P:=P) w a [] (by simp)
  rcases hown.2 with ⟨rfl,rfl⟩ | ⟨g',cap',cur,rfl,_,hg,hnc,_⟩
  ·simp [Builtin.append_,run_underlying ht,sizeOf,typeInfo,hi,Builtin.lenOf,Builtin.firstCells,hlc,Result.andThen]
  ·simp [Builtin.append_,run_underlying ht,sizeOf,typeInfo,hi,Builtin.lenOf,Builtin.firstCells,hlc,hnc,storeCells,Result.andThen]
 ·obtain ⟨news,hpw,hcells⟩:=Lies.values _ _ hl
  have hlen:news.length = ys.length * i.size:=by rw [<- hpw.1,flat_len ys hrow]
  by_cases h0:ys.length = 0
  ·have:ys = []:=List.eq_nil_of_length_eq_zero h0
   subst this
   have hn0:news = []:=List.eq_nil_of_length_eq_zero (by simpa using hlen)
   subst hn0
   refine ⟨v,w,[],?_,by simpa using hown,grownBy_refl _ _,.nil,fun g hg=>.inl hg,by simp⟩
   rw [append_types ht hu]
   have hlc:∀ (a:Addr),(loadCells a 0).run P w = .ok #[] w:=fun a=>by simpa using run_loadCells_list (P:=P) w a [] (by simp)
   rcases hown.2 with ⟨rfl,rfl⟩ | ⟨g',cap',cur,rfl,_,hg,hnc,_⟩
   ·simp [Builtin.append_,run_underlying ht,sizeOf,typeInfo,hi,Builtin.lenOf,Builtin.firstCells,hlc,Result.andThen]
   ·simp [Builtin.append_,run_underlying ht,sizeOf,typeInfo,hi,Builtin.lenOf,Builtin.firstCells,hlc,hnc,storeCells,Result.andThen]
  ·obtain ⟨v',w',hr,ho',hgr,hnil⟩:=run_append_own (P:=P) w B0 t ty e i z i.size i.bytes ht hi hz rfl rfl hzs hsz v n xs hown ⟨g,off,none⟩ ys.length cap news hlen
    (fun j q hj=>by rw [addr_add];exact hcells j q hj) hpw.oneCell (by rw [maxLen_eq];exact h63) hb hB
   refine ⟨v',w',news,by rw [append_types ht hu];exact hr,ho',hgr,hpw,fun g' hg'=>?_,by rw [hnil,List.length_eq_zero_iff]⟩
   rcases ho'.2 with ⟨hv',hn'⟩ | ⟨g2,cap2,cur2,rfl,hB2,hg2,_⟩
   ·omega
   ·simp [Value.ownBlock] at hg'
    subst hg'
    by_cases hlt:g2 < w.heap.size
    ·refine .inl ?_
     rcases Classical.em (v.ownBlock = some g2) with hq | hq
     ·exact hq
     ·exfalso
      rcases hown.2 with ⟨rfl,rfl⟩ | ⟨g3,cap3,cur3,rfl,hb3,hg3,hn3,hm3,hs3,ht3⟩
      ·have hr0:=run_append_nil (P:=P) w t ty e i z ht hi hz ⟨g,off,none⟩ ys.length cap news hlen (fun j q hj=>by rw [addr_add];exact hcells j q hj) (by omega) (by omega) (by have:=hb;simp only [Nat.zero_add] at this;omega)
       rw [hr] at hr0
       simp only [Result.ok.injEq,Value.slice.injEq,Option.some.injEq,Addr.mk.injEq] at hr0
       omega
      ·by_cases hroom:n + ys.length <= cap3
       ·have hr0:=run_append_room (P:=P) w t ty e i ht hi g3 n cap3 cur3 hg3 ⟨g,off,none⟩ ys.length cap news hlen (fun j q hj=>by rw [addr_add];exact hcells j q hj) hpw.oneCell hroom
         (by rw [hlen,hs3,<- Nat.add_mul];exact Nat.mul_le_mul_right _ hroom)
        rw [hr] at hr0
        simp only [Result.ok.injEq,Value.slice.injEq,Option.some.injEq,Addr.mk.injEq] at hr0
        exact hq (by rw [hr0.1.1.1];rfl)
       ·have hr0:=run_append_grow (P:=P) w t ty e i z ht hi hz ⟨g3,0,none⟩ n cap3 xs hown.1 (hown.cells (g:=g3) rfl) ⟨g,off,none⟩ ys.length cap news hlen (fun j q hj=>by rw [addr_add];exact hcells j q hj) (by omega) (by omega)
         (by
          have h2:=nextslicecap_le (show cap3 < n + ys.length by omega)
          have:=Nat.mul_le_mul_right i.bytes h2
          rw [Nat.mul_assoc] at this
          omega)
        rw [hr] at hr0
        simp only [Result.ok.injEq,Value.slice.injEq,Option.some.injEq,Addr.mk.injEq] at hr0
        omega
    ·exact .inr (by omega)
end Go.Am
namespace Go.Am
open Go.RowKit
variable {P:Program} {w w1 w2 w':World} {M0:Nat -> Prop} {h h1 h2 h':List Blk} {hd hd1 hd2 hd':Nat -> Value} {B0:Nat} {bad:Nat -> Prop}
theorem own_hd {b ver:Nat} {k:Blk} {v:Value} (hx:AVR w bad h hd (.one (.own b ver)) v) (hk:h[b]? = some k) (hver:ver = k.ver):v = hd b:=by
 cases hx with
 | one _ _ hv =>
  cases hv with
  | own b blk hb h1=>rfl
  | ownStale b ver blk v hb hlt h1 =>
   obtain rfl:blk = k:=by rw [hk] at hb;exact (Option.some.inj hb).symm
   omega
theorem AVR.own_new {w':World} {b:Nat} {k:Blk} {v:Value} (hb:h[b]? = some k) (hv:hd b = v) (h1:v.oneCell' = true):AVR w' bad h hd (.one (.own b k.ver)) v:=by
 subst hv
 exact .one _ _ (.own b k hb h1)
theorem gv_append_own (H:HR B0 M0 w h hd) (hM:∀ g,M0 g -> g < w.heap.size) (hB:B0 <= w.heap.size) {t u ty e e':TypeId} {i:TypeInfo} {z:Value} (ht:P.underlying t = some (.slice e)) (hu:P.underlying u = some (.slice e')) (hi:P.info? e = some i) (hz:i.zero = some z)
  (hzs:z.cells.size = i.size) (hsz:0 < i.size) {b ver:Nat} {v vy:Value} {y:AV} (hx:AVR w (badOf M0 h hd) h hd (.one (.own b ver)) v) {k:Blk} (hk:h[b]? = some k) (hver:ver = k.ver) (hke:k.e = i.size) (hty:k.ty = e) (hlive:k.live = true)
  (hy:AVR w (badOf M0 h hd) h hd y vy) {ys:List (List Cell)} (hey:elems h i.size y = some ys) (h63:k.els.length + ys.length <= 9223372036854775807) (hb:(k.els.length + ys.length) * i.bytes <= 140737488355328) :
  GV P B0 M0 w h hd (Builtin.append_ #[t,u] ty #[v,vy]) (.one (.own b (k.ver + 1))) (h.set b { k with ver:=k.ver + 1,els:=k.els ++ ys,nn:=k.nn || !ys.isEmpty }):=by
 obtain ⟨hr,xs,ho,hpw⟩:=H.pw hk
 have hv:=own_hd hx hk hver
 subst hv
 rw [hty,hke] at ho
 obtain ⟨v',w',news,hrun,ho',hg,hn,hf,hnil⟩:=run_append_mine (P:=P) H hB (ty:=ty) ht hu hi hz hzs hsz ho hy hey h63 hb
 have hrow:=(elems_lies H hy hey).1
 have key:=H.upd (k':={ k with ver:=k.ver + 1,els:=k.els ++ ys,nn:=k.nn || !ys.isEmpty }) hk hlive hg (v:=v') (xs:=xs ++ news) (.inr (Nat.lt_succ_self _)) (rows_append hr (by rw [hke];exact hrow))
  (by simp only [List.length_append];rw [hty,hke];exact ho') (by
   have:=hpw.append hn
   rw [<- List.flatten_append] at this
   exact this.2) hf hM (by
   rw [hnil,<- H.nn b k hk]
   simp [Bool.or_eq_false_iff])
 have hblt:=(List.getElem?_eq_some_iff.1 hk).1
 refine ⟨v',w',_,_,hrun,hg,fun g e=>⟨b,k,hk,hlive,e⟩,key.1,key.2,?_⟩
 exact AVR.own_new (k:={ k with ver:=k.ver + 1,els:=k.els ++ ys,nn:=k.nn || !ys.isEmpty }) (by simp [hblt]) (upd_same _ _ _) (ownsRow_one ho')
theorem gv_append_nil (H:HR B0 M0 w h hd) (hM:∀ g,M0 g -> g < w.heap.size) (hB:B0 <= w.heap.size) {t u ty e e':TypeId} {i:TypeInfo} {z:Value} (ht:P.underlying t = some (.slice e)) (hu:P.underlying u = some (.slice e')) (hi:P.info? e = some i) (hz:i.zero = some z)
  (hzs:z.cells.size = i.size) (hsz:0 < i.size) {vy:Value} {y:AV}
  (hy:AVR w (badOf M0 h hd) h hd y vy) {ys:List (List Cell)} (hey:elems h i.size y = some ys) (h63:ys.length <= 9223372036854775807) (hb:ys.length * i.bytes <= 140737488355328) :
  GV P B0 M0 w h hd (Builtin.append_ #[t,u] ty #[.slice none 0 0,vy]) (.one (.own h.length 0)) (h ++ [⟨0,e,i.size,ys,true,!ys.isEmpty⟩]):=by
 obtain ⟨v',w',news,hrun,ho',hg,hn,hf,hnil⟩:=run_append_mine (P:=P) H hB (ty:=ty) ht hu hi hz hzs hsz (World.ownsRow_nil w B0 e i.size) hy hey (by omega) (by simpa using hb)
 refine gv_row H hM (elems_lies H hy hey).1 hn hrun hg (by simpa using ho') (fun g hg=>?_) (by rw [hnil];simp)
 rcases hf g hg with e | e
 ·simp [Value.ownBlock] at e
 ·exact e
theorem gv_append_slx (H:HR B0 M0 w h hd) (hM:∀ g,M0 g -> g < w.heap.size) (hB:B0 <= w.heap.size) {t u ty e e':TypeId} {i:TypeInfo} {z:Value} (ht:P.underlying t = some (.slice e)) (hu:P.underlying u = some (.slice e')) (hi:P.info? e = some i) (hz:i.zero = some z)
  (hzs:z.cells.size = i.size) (hsz:0 < i.size) {l:List (List CV)} {v vy:Value} {y:AV} (hx:AVR w (badOf M0 h hd) h hd (.one (.slx i.size l)) v)
  (hy:AVR w (badOf M0 h hd) h hd y vy) {ys:List (List Cell)} (hey:elems h i.size y = some ys) (hne:ys ≠ []) (h63:l.length + ys.length <= 9223372036854775807) (hb:(l.length + ys.length) * i.bytes <= 140737488355328) :
  GV P B0 M0 w h hd (Builtin.append_ #[t,u] ty #[v,vy]) (.one (.own h.length 0)) (h ++ [⟨0,e,i.size,l.map (·.map .c) ++ ys,true,true⟩]):=by
 have hxe:elems h i.size (.one (.slx i.size l)) = some (l.map (·.map .c)):=by simp [elems]
 obtain ⟨hrx,hcx⟩:=elems_lies H hx hxe
 obtain ⟨hry,hcy⟩:=elems_lies H hy hey
 obtain ⟨g0,off0,rfl⟩:∃ g0 off0,v = .slice (some ⟨g0,off0,none⟩) l.length l.length:=by
  cases hx with | one _ _ hv=>cases hv with | slx _ _ g off hc=>exact ⟨g,off,rfl⟩
 replace hcx:(Value.slice (some ⟨g0,off0,none⟩) l.length l.length = .slice none 0 0 /\ l.map (·.map Cell.c) = []) \/ ∃ g off cap,Value.slice (some ⟨g0,off0,none⟩) l.length l.length = .slice (some ⟨g,off,none⟩) (l.map (·.map Cell.c)).length cap /\ (l.map (·.map Cell.c)).length <= cap /\ Lies w (badOf M0 h hd) h hd g off (l.map (·.map Cell.c)).flatten:=by
  rcases hcx with h0 | h0 | ⟨h0,_⟩
  ·exact .inl h0
  ·exact .inr h0
  ·exact .inr ⟨g0,off0,l.length,by rw [List.length_map],by simp,fun j c hj=>by rw [h0] at hj;simp at hj⟩
 rcases hcx with ⟨h0,_⟩ | ⟨g1,off1,cap1,hv1,_,hl1⟩
 ·cases h0
 ·simp only [Value.slice.injEq,Option.some.injEq,Addr.mk.injEq,and_true] at hv1
  obtain ⟨⟨rfl,rfl⟩,_,_⟩:=hv1
  rcases hcy with ⟨_,h0⟩ | ⟨g,off,cap,rfl,hcap,hl⟩ | ⟨h0,_⟩
  ·exact absurd h0 hne
  rotate_left
  ·exact absurd h0 hne
  ·have hypos:0 < ys.length:=by cases ys with | nil=>exact absurd rfl hne | cons=>simp
   obtain ⟨olds,hpo,hco⟩:=Lies.values _ _ hl1
   obtain ⟨news,hpn,hcn⟩:=Lies.values _ _ hl
   have hlo:olds.length = l.length * i.size:=by rw [<- hpo.1,flat_len _ hrx,List.length_map]
   have hln:news.length = ys.length * i.size:=by rw [<- hpn.1,flat_len _ hry]
   have hrun:=run_append_grow (P:=P) w t ty e i z ht hi hz ⟨g0,off0,none⟩ l.length l.length olds hlo (fun j q hj=>by rw [addr_add];exact hco j q hj) ⟨g,off,none⟩ ys.length cap news hln
    (fun j q hj=>by rw [addr_add];exact hcn j q hj) (by omega) (by omega) (by
     have h2:=nextslicecap_le (show l.length < l.length + ys.length by omega)
     have:=Nat.mul_le_mul_right i.bytes h2
     rw [Nat.mul_assoc] at this
     omega)
   have hge:=grownCap_ge w (l.length + ys.length) l.length e
   have hcm:grownCap w (l.length + ys.length) l.length e <= maxLen:=grownCap_le_maxLen w _ _ e (by rw [maxLen_eq];omega)
   have hrun':=(append_types (P:=P) (w:=w) ht hu ty (.slice (some ⟨g0,off0,none⟩) l.length l.length) (.slice (some ⟨g,off,none⟩) ys.length cap)).trans hrun
   refine gv_row H hM (rows_append hrx hry) (xs:=olds ++ news) (by rw [List.flatten_append];exact hpo.append hpn) hrun' ⟨rfl,rfl,rfl,by simp,fun k hk _=>heap_alloc_old w.drew _ k hk⟩ ?_
    (fun g hg=>by simp [Value.ownBlock] at hg;omega) (by simp)
   refine ⟨by simp [hlo,hln,Nat.add_mul],.inr ⟨w.heap.size,_,_,by simp,hB,heap_alloc_new w.drew _,by simpa using hge,hcm,?_,?_⟩⟩
   ·simp only [Array.size_append,List.size_toArray,size_zeroCells,hzs,hlo,hln,<- Nat.add_mul]
    congr 1
    omega
   ·simp only [Array.toList_append,List.length_append,List.length_map]
    have:(l.length + ys.length) * i.size = (olds ++ news).length:=by simp [hlo,hln,Nat.add_mul]
    rw [this]
    exact List.take_left
theorem madeCells_pw {bad:Nat -> Prop} {z:Value} {n sz:Nat} (hzs:z.cells.size = sz) (hsz:0 < sz) (h1:z.cells.all (·.oneCell') = true) :
  PW (VR w bad h hd) (List.replicate n (z.cells.toList.map fun v=>Cell.c (.val v))).flatten (madeCells z.cells (n * sz)).toList:=by
 have hrow:∀ (i:Nat) (r:List Cell),(List.replicate n (z.cells.toList.map fun v=>Cell.c (.val v)))[i]? = some r -> r.length = sz:=fun i r hi=>by
  rw [List.getElem?_replicate] at hi
  split at hi
  ·simp at hi;subst hi;simp [hzs]
  ·cases hi
 have hlen:(List.replicate n (z.cells.toList.map fun v=>Cell.c (.val v))).flatten.length = n * sz:=by rw [flat_len _ hrow];simp
 refine ⟨by rw [hlen];simp [size_madeCells],fun i c v hc hv=>?_⟩
 have hi:i < n * sz:=by rw [<- hlen];exact (List.getElem?_eq_some_iff.1 hc).1
 have hq:i / sz < n:=(Nat.div_lt_iff_lt_mul hsz).2 hi
 have hm:=Nat.mod_lt i hsz
 have e:i = i / sz * sz + i % sz:=by rw [Nat.mul_comm];exact (Nat.div_add_mod i sz).symm
 have hf:=flat_get _ (i / sz) (i % sz) _ hrow (by rw [List.getElem?_replicate,if_pos hq]) hm
 rw [<- e,hc] at hf
 have hz:(z.cells.toList.map fun v=>Cell.c (.val v))[i % sz]? = some (.c (.val (z.cells[i % sz]'(by omega)))):=by
  rw [List.getElem?_map];simp [show i % sz < z.cells.size by omega]
 rw [hz] at hf
 cases hf
 have hv':v = z.cells[i % sz]'(by omega):=by
  simp [madeCells,hi,hzs] at hv
  have:=hv.symm
  rw [this]
  simp [show i % sz < z.cells.size by omega]
 subst hv'
 refine .c _ _ (.val _ ?_)
 rw [Array.all_eq_true] at h1
 exact h1 _ (by omega)
theorem gv_make (H:HR B0 M0 w h hd) (hM:∀ g,M0 g -> g < w.heap.size) (hB:B0 <= w.heap.size) {t e:TypeId} {i:TypeInfo} {z:Value} (ht:P.underlying t = some (.slice e)) (hi:P.info? e = some i) (hz:i.zero = some z)
  (hzs:z.cells.size = i.size) (hsz:0 < i.size) (h1:z.cells.all (·.oneCell') = true) {kl kc:IntKind} {n:Int} (h0:0 <= n) (hb:n * i.bytes <= 140737488355328) (h63:n <= 9223372036854775807) :
  GV P B0 M0 w h hd (Instr.makeSlice t (.int kl n) (.int kc n)) (.one (.own h.length 0)) (h ++ [⟨0,e,i.size,List.replicate n.toNat (z.cells.toList.map fun v=>.c (.val v)),true,true⟩]):=by
 obtain ⟨n,rfl⟩:∃ m:Nat,n = m:=⟨n.toNat,by omega⟩
 simp only [Int.toNat_natCast]
 obtain ⟨w',hrun,ho,hg⟩:=run_make_full (P:=P) w B0 t e i z i.size ht hi hz rfl kl kc n (by
  have hb':((n * i.bytes:Nat):Int) <= 140737488355328:=by rw [Int.natCast_mul];exact hb
  rw [Nat.mul_comm];omega) (by rw [maxLen_eq];omega) hB
 refine gv_row H hM (fun j r hj=>?_) (madeCells_pw hzs hsz h1) hrun hg (by simpa using ho) (fun g hg=>by simp [Value.ownBlock] at hg;omega) (by simp)
 rw [List.getElem?_replicate] at hj
 split at hj
 ·simp at hj;subst hj;simp [hzs]
 ·cases hj
theorem flatten_take {α:Type} {e:Nat}:∀ (els:List (List α)) (n:Nat),(∀ (i:Nat) (r:List α),els[i]? = some r -> r.length = e) -> (els.take n).flatten = els.flatten.take (n * e)
 | [],n,_=>by simp
 | x :: els,0,_=>by simp
 | x :: els,n + 1,hr=>by
  have hx:=hr 0 x rfl
  simp only [List.take_succ_cons,List.flatten_cons,flatten_take els n (fun i r hi=>hr (i + 1) r (by simpa using hi))]
  rw [show (n + 1) * e = x.length + n * e by rw [hx,Nat.add_mul];omega,List.take_length_add_append]
theorem flatten_drop {α:Type} {e:Nat}:∀ (els:List (List α)) (n:Nat),(∀ (i:Nat) (r:List α),els[i]? = some r -> r.length = e) -> (els.drop n).flatten = els.flatten.drop (n * e)
 | [],n,_=>by simp
 | x :: els,0,_=>by simp
 | x :: els,n + 1,hr=>by
  have hx:=hr 0 x rfl
  simp only [List.drop_succ_cons,List.flatten_cons,flatten_drop els n (fun i r hi=>hr (i + 1) r (by simpa using hi))]
  rw [show (n + 1) * e = x.length + n * e by rw [hx,Nat.add_mul];omega,List.drop_length_add_append]
theorem gv_copy (H:HR B0 M0 w h hd) (hM:∀ g,M0 g -> g < w.heap.size) {t u ty e:TypeId} {s:Nat} (ht:P.underlying t = some (.slice e)) (hs:szOf P e = some s) (hs0:0 < s) {b ver:Nat} {v vy:Value} {y:AV}
  (hx:AVR w (badOf M0 h hd) h hd (.one (.own b ver)) v) {k:Blk} (hk:h[b]? = some k) (hver:ver = k.ver) (hke:k.e = s) (hlive:k.live = true)
  (hy:AVR w (badOf M0 h hd) h hd y vy) {ys:List (List Cell)} (hey:elems h s y = some ys) :
  GV P B0 M0 w h hd (Builtin.copy_ #[t,u] ty #[v,vy]) (.one (.c (.val (.int .i64 (min ys.length k.els.length:Nat))))) (h.set b { k with els:=ys.take k.els.length ++ k.els.drop ys.length }):=by
 obtain ⟨hr,xs,ho,hpw⟩:=H.pw hk
 have hv:=own_hd hx hk hver
 subst hv
 obtain ⟨hrow,hcase⟩:=elems_lies H hy hey
 have hinf:∃ inf,P.info? e = some inf /\ inf.size = s:=by
  unfold szOf at hs
  cases hq:P.info? e with
  | none=>simp [hq] at hs
  | some inf=>exact ⟨inf,rfl,by simpa [hq] using hs⟩
 obtain ⟨inf,hinf,hsz⟩:=hinf
 have hblt:=(List.getElem?_eq_some_iff.1 hk).1
 have hlen:min ys.length k.els.length = (ys.take k.els.length).length:=by rw [List.length_take,Nat.min_comm]
 have hnothing:ys.length = 0 \/ k.els.length = 0 -> (Builtin.copy_ #[t,u] ty #[hd b,vy]).run P w = .ok (goInt 0) w:=fun hz=>by
  have hl0:∀ (x:Addr),(loadCells x 0).run P w = .ok #[] w:=fun x=>by simpa using run_loadCells_list (P:=P) w x [] (by simp)
  have hn:∀ m,vy = .slice none 0 0 /\ m = 0 \/ (∃ (a:Addr) (cap:Nat),vy = .slice (some a) m cap) -> Nat.min m k.els.length = 0 -> (Builtin.copy_ #[t,u] ty #[hd b,vy]).run P w = .ok (goInt 0) w:=fun m hm h0=>by
   rcases ho.2 with ⟨hn,_⟩ | ⟨g,cap,cur,hh,_⟩ <;> rcases hm with ⟨rfl,rfl⟩ | ⟨a',cap',rfl⟩
   ·rw [hn];simp [Builtin.copy_,run_underlying ht,Builtin.lenOf,Builtin.firstCells,sizeOf,typeInfo,hinf,hl0,Result.andThen]
   ·rw [hn];simp [Builtin.copy_,run_underlying ht,Builtin.lenOf,Builtin.firstCells,sizeOf,typeInfo,hinf,hl0,Result.andThen]
   ·rw [hh];simp [Builtin.copy_,run_underlying ht,Builtin.lenOf,Builtin.firstCells,sizeOf,typeInfo,hinf,hl0,storeCells,Result.andThen]
   ·rw [hh];simp [Builtin.copy_,run_underlying ht,Builtin.lenOf,Builtin.firstCells,sizeOf,typeInfo,hinf,hl0,h0,storeCells,Result.andThen]
  rcases hcase with ⟨rfl,rfl⟩ | ⟨g,off,cap,rfl,_,_⟩ | ⟨rfl,ad,rfl⟩
  ·exact hn 0 (.inl ⟨rfl,rfl⟩) (Nat.zero_min _)
  ·exact hn ys.length (.inr ⟨⟨g,off,none⟩,cap,rfl⟩) (by simp only [Nat.min_def];split <;> omega)
  ·exact hn 0 (.inr ⟨ad,0,rfl⟩) (Nat.zero_min _)
 by_cases hz:ys.length = 0 \/ k.els.length = 0
 ·have hels:ys.take k.els.length ++ k.els.drop ys.length = k.els:=by
   rcases hz with hz | hz
   ·have:ys = []:=List.eq_nil_of_length_eq_zero hz
    subst this;simp
   ·have:k.els = []:=List.eq_nil_of_length_eq_zero hz
    simp [this]
  have hmin:min ys.length k.els.length = 0:=by omega
  rw [hels,hmin]
  have hset:h.set b { k with els:=k.els } = h:=by
   apply List.ext_getElem?
   intro j
   rw [List.getElem?_set]
   split
   ·rename_i e;subst e;exact hk.symm
   ·rfl
  rw [hset]
  exact GV.quiet H (hnothing hz) (avr_val rfl)
 ·rcases hcase with ⟨_,rfl⟩ | ⟨g,off,cap,rfl,hcap,hl⟩ | ⟨rfl,_⟩
  ·simp at hz
  rotate_left
  ·simp at hz
  ·obtain ⟨g0,cap0,hh⟩:=H.hasRow hk (i:=0) (r:=k.els[0]'(by omega)) (by simp [List.getElem?_eq_getElem])
   obtain ⟨news,hpn,hcn⟩:=Lies.values _ _ hl
   have hln:news.length = ys.length * s:=by rw [<- hpn.1,flat_len _ hrow]
   obtain ⟨m,hm⟩:∃ m,m = min ys.length k.els.length:=⟨_,rfl⟩
   have e1:ys.take k.els.length = ys.take m:=by
    rw [hm]
    apply List.ext_getElem?
    intro j
    rw [List.getElem?_take,List.getElem?_take]
    by_cases hj:j < k.els.length
    ·by_cases hj2:j < ys.length
     ·rw [if_pos hj,if_pos (by omega)]
     ·rw [List.getElem?_eq_none (by omega)];simp
    ·rw [if_neg hj,if_neg (by omega)]
   have e2:k.els.drop ys.length = k.els.drop m:=by
    rw [hm]
    by_cases hj:ys.length <= k.els.length
    ·rw [Nat.min_eq_left hj]
    ·rw [Nat.min_eq_right (by omega),List.drop_eq_nil_of_le (by omega),List.drop_eq_nil_of_le (by omega)]
   have hpw':PW (VR w (badOf M0 h hd) h hd) (ys.take m).flatten (news.take (m * s)):=by
    rw [flatten_take ys _ hrow];exact hpn.take _
   have hmy:m <= ys.length:=by omega
   have hme:m <= k.els.length:=by omega
   have hcl:(ys.take m).flatten.length = m * s:=by
    rw [flatten_take ys _ hrow,List.length_take,hpn.1,hln]
    exact Nat.min_eq_left (Nat.mul_le_mul_right _ hmy)
   have hl2:(ys.take m ++ k.els.drop m).length = k.els.length:=by simp;omega
   have hrow2:∀ (i:Nat) (r:List Cell),(ys.take m ++ k.els.drop m)[i]? = some r -> r.length = k.e :=
    rows_append (fun i r hi=>by rw [List.getElem?_take] at hi;split at hi;· rw [hke];exact hrow i r hi
                                ·cases hi) (fun i r hi=>by rw [List.getElem?_drop] at hi;exact hr _ r hi)
   obtain ⟨w',hrun,hg,hro,hd',hH,hT⟩:=H.splice (P:=P) hM hk hlive hh (o:=0) hpw' (by rw [hcl,hke];have:=Nat.mul_le_mul_right s hme;omega) (els':=ys.take m ++ k.els.drop m) hl2 hrow2
    (by rw [List.flatten_append,flatten_drop k.els m hr,hcl,hke];simp)
   rw [e1,e2]
   refine ⟨_,w',hd',_,?_,hg,hro,hH,hT,avr_val rfl⟩
   have hfc:(Builtin.firstCells s m (.slice (some ⟨g,off,none⟩) ys.length cap)).run P w = .ok (news.take (m * s)).toArray w :=
    run_firstCells_some w s m _ _ _ _ (by rw [<- hpw'.1,hcl]) (fun j q hj=>by
     rw [List.getElem?_take] at hj
     split at hj
     ·rw [addr_add];exact hcn j q hj
     ·cases hj)
   rw [hh,<- hm]
   have hm2:Nat.min ys.length k.els.length = m:=hm.symm
   simp [Builtin.copy_,run_underlying ht,Builtin.lenOf,sizeOf,typeInfo,hinf,hsz,hm2,hfc,hrun,goInt,Result.andThen]
end Go.Am
