/- The abstract memory: what only computes. -/
import Derived.Laws.BytesString
import Derived.Laws.Slices
import Derived.Laws.StructEq
import Derived.Test.YtncgbjhojbnecaaA1
set_option linter.unusedSimpArgs false
set_option linter.unusedVariables false
set_option linter.unnecessarySimpa false
namespace Go.Am
open Go.RowKit
variable {P:Program} {w w1 w2 w':World} {M0:Nat -> Prop} {h h1 h2 h':List Blk} {hd hd1 hd2 hd':Nat -> Value} {B0:Nat} {bad:Nat -> Prop}
theorem CR.cut {e:Nat} {l:List (List CV)} {g off cap:Nat} (hx:CR w bad (.sl e l) (.slice (some ⟨g,off,none⟩) l.length cap)) {a b m:Nat} (hb:b <= l.length) (hab:a <= b) (hbm:b <= m) (hmc:m <= cap) :
  CR w bad (.sl e ((l.take b).drop a)) (.slice (if m = a then some ⟨g,off,none⟩ else some ⟨g,off + a * e,none⟩) (b - a) (m - a)):=by
 cases hx with
 | sl _ _ _ _ _ f hcap hbad hlt hrow hc hv =>
  have hlen:((l.take b).drop a).length = b - a:=by simp;omega
  have get:∀ (i:Nat) (r:List CV),((l.take b).drop a)[i]? = some r -> l[a + i]? = some r /\ a + i < b:=fun i r hi=>by
   rw [List.getElem?_drop,List.getElem?_take] at hi
   split at hi
   ·rename_i hlt;exact ⟨hi,hlt⟩
   ·cases hi
  by_cases hma:m = a
  ·rw [if_pos hma]
   have e0:(l.take b).drop a = []:=List.eq_nil_of_length_eq_zero (by omega)
   rw [e0]
   have:=CR.sl (w:=w) (bad:=bad) e [] g off (m - a) f (by simp) hbad hlt (fun i r hi=>by simp at hi) (fun i j hi=>by simp at hi) (fun i j r x hi=>by simp at hi)
   rw [show b - a = ([]:List (List CV)).length by simp;omega]
   exact this
  ·rw [if_neg hma]
   have:=CR.sl (w:=w) (bad:=bad) e ((l.take b).drop a) g (off + a * e) (m - a) (fun i j=>f (a + i) j) (by omega) hbad hlt (fun i r hi=>hrow _ r (get i r hi).1)
    (fun i j hi hj=>by
     have:=hc (a + i) j (by omega) hj
     rwa [show off + ((a + i) * e + j) = off + a * e + (i * e + j) by rw [Nat.add_mul];omega] at this)
    (fun i j r x hi hj=>hv (a + i) j r x (get i r hi).1 hj)
   rw [hlen] at this
   exact this
 | emp =>
  obtain rfl:b = 0:=by simpa using hb
  obtain rfl:a = 0:=by omega
  obtain rfl:m = 0:=by omega
  exact .emp _ _
theorem bound_none {top df n:Nat} (h:bound top df none = some n):n = df:=by simp [bound] at h;exact h.symm
theorem bound_some {top df n:Nat} {x:AV} {v:Value} (hx:AVR w bad h hd x v) (hb:bound top df (some x) = some n):∃ k i,v = .int k i /\ 0 <= i /\ i <= top /\ n = i.toNat:=by
 simp only [bound] at hb
 cases hi:x.int? with
 | none=>simp [hi] at hb
 | some p =>
  simp only [hi] at hb
  split at hb
  ·rename_i hc
   simp only [Option.some.injEq] at hb
   exact ⟨p.1,p.2,hx.int hi,hc.1,hc.2,hb.symm⟩
  ·cases hb
def rel? (w:World) (bad:Nat -> Prop) (h:List Blk) (hd:Nat -> Value):Option AV -> Option Value -> Prop
 | none,none=>True
 | some x,some v=>AVR w bad h hd x v
 | _,_=>False
theorem run_bounds2 {isSlice:Bool} {len cap:Nat} {lo hi:Option AV} {vlo vhi:Option Value} (hlo:rel? w bad h hd lo vlo) (hhi:rel? w bad h hd hi vhi) (hlc:len <= cap)
  {b a:Nat} (hb:bound len len hi = some b) (ha:bound b 0 lo = some a):(Instr.sliceBounds isSlice len cap vlo vhi none).run P w = .ok (a,b,cap) w /\ b <= len /\ a <= b:=by
 cases hi <;> cases vhi <;> simp only [rel?] at hhi <;> cases lo <;> cases vlo <;> simp only [rel?] at hlo
 ·have:=bound_none hb;have:=bound_none ha;subst_vars
  exact ⟨by simp [Instr.sliceBounds,Result.andThen],by omega,by omega⟩
 ·have:=bound_none hb
  obtain ⟨k,i,rfl,h0,h1,rfl⟩:=bound_some hlo ha
  subst_vars
  refine ⟨by simp [Instr.sliceBounds,run_sliceBound,h0,h1,Result.andThen],by omega,by omega⟩
 ·obtain ⟨k,i,rfl,h0,h1,rfl⟩:=bound_some hhi hb
  have:=bound_none ha
  subst this
  have h2:i <= (cap:Int):=by omega
  refine ⟨by simp [Instr.sliceBounds,run_sliceBound,h0,h2,Result.andThen],by omega,by omega⟩
 ·obtain ⟨k,i,rfl,h0,h1,rfl⟩:=bound_some hhi hb
  obtain ⟨k',i',rfl,h0',h1',rfl⟩:=bound_some hlo ha
  have h2:i <= (cap:Int):=by omega
  have e:(i.toNat:Int) = i:=Int.toNat_of_nonneg h0
  rw [e] at h1'
  refine ⟨by simp [Instr.sliceBounds,run_sliceBound,h0,h2,h0',h1',e,Result.andThen],by omega,by omega⟩
theorem str_extract (s:List UInt8) (a b:Nat):(⟨s.toArray⟩:ByteArray).extract a b = ⟨((s.take b).drop a).toArray⟩:=by
 apply ByteArray.ext
 rw [ByteArray.data_extract]
 simp [List.drop_take]
theorem str_append (s t:List UInt8):(⟨s.toArray⟩:ByteArray) ++ ⟨t.toArray⟩ = ⟨(s ++ t).toArray⟩:=by
 apply ByteArray.ext
 simp
theorem str_toList (s:List UInt8):(⟨s.toArray⟩:ByteArray).toList = s:=by rw [ByteArray.toList_eq]
theorem str_size (s:List UInt8):(⟨s.toArray⟩:ByteArray).size = s.length:=by simp [ByteArray.size]
theorem str_get (s:List UInt8) (i:Nat):(⟨s.toArray⟩:ByteArray)[i]? = s[i]?:=by
 by_cases hi:i < s.length
 ·rw [getElem?_pos (⟨s.toArray⟩:ByteArray) i (by rw [str_size];exact hi),List.getElem?_eq_getElem hi];simp [ByteArray.getElem_eq_getElem_data]
 ·rw [getElem?_neg (⟨s.toArray⟩:ByteArray) i (by rw [str_size];exact hi),List.getElem?_eq_none (by omega)]
theorem avr_str {s:List UInt8}:AVR w bad h hd (.one (.c (.str s))) (.string ⟨s.toArray⟩):=.one _ _ (.c _ _ (.str s))
theorem AVR.strv {s:List UInt8} {v:Value} (hx:AVR w bad h hd (.one (.c (.str s))) v):v = .string ⟨s.toArray⟩:=by
 cases hx with | one _ _ hv=>cases hv with | c _ _ hc=>cases hc;rfl
theorem run_guard {op:BinOp} {t:TypeId} {x y:Operand} {u v:Value} (h1:∀ p q,¬ (u = .agg p /\ v = .agg q)) (h2:u ≠ .nilIface):(eqGuard op t x y u v).run P w = .ok () w:=by
 unfold eqGuard
 cases u <;> cases v <;> simp_all
theorem run_binAV {op:BinOp} {t:TypeId} {x y:Operand} {a b av:AV} {u v:Value} (hu:AVR w bad h hd a u) (hv:AVR w bad h hd b v) (hb:binAV op a b = some av) :
  ∃ r,(do eqGuard op t x y u v;binOp op t u v:Sem Value).run P w = .ok r w /\ AVR w bad h hd av r:=by
 unfold binAV at hb
 split at hb
 ·rename_i k n k' m
  obtain rfl:=hu.val
  obtain rfl:=hv.val
  have hg:=run_guard (P:=P) (w:=w) (op:=op) (t:=t) (x:=x) (y:=y) (u:=.int k n) (v:=.int k' m) (by simp) (by simp)
  split at hb
  ·split at hb
   ·cases hb
   ·rename_i hneg
    simp only [Option.some.injEq] at hb
    subst hb
    refine ⟨_,?_,avr_val rfl⟩
    simp only [Sem.run_bind,hg,Result.andThen,binOp,Op.shift,hneg,if_false,Sem.run_pure]
  ·split at hb
   ·cases hb
   ·rename_i hneg
    simp only [Option.some.injEq] at hb
    subst hb
    refine ⟨_,?_,avr_val rfl⟩
    simp only [Sem.run_bind,hg,Result.andThen,binOp,Op.shift,hneg,if_false,Sem.run_pure]
  ·rename_i hs1 hs2
   split at hb
   ·rename_i hkk
    subst hkk
    cases op <;> simp only [intBin,Option.map_some,Option.some.injEq,Option.map_none,reduceCtorEq] at hb <;>
     first
      | (exact absurd rfl hs1)
      | (exact absurd rfl hs2)
      | (subst hb;refine ⟨_,?_,avr_val rfl⟩;simp only [Sem.run_bind,hg,Result.andThen,binOp,ne_eq,not_true_eq_false,if_false,Op.intArith,Op.intBits,Op.intCmp,Sem.run_pure];done)
      | (split at hb
         ·simp at hb
         ·rename_i hy
          simp only [Option.map_some,Option.some.injEq] at hb
          subst hb
          refine ⟨_,?_,avr_val rfl⟩
          simp only [Sem.run_bind,hg,Result.andThen,binOp,ne_eq,not_true_eq_false,if_false,Op.intDiv,hy,Sem.run_pure])
   ·cases hb
 ·rename_i p q
  obtain rfl:=hu.strv
  obtain rfl:=hv.strv
  have hg:=run_guard (P:=P) (w:=w) (op:=op) (t:=t) (x:=x) (y:=y) (u:=.string ⟨p.toArray⟩) (v:=.string ⟨q.toArray⟩) (by simp) (by simp)
  split at hb
  ·split at hb
   ·rename_i hle
    simp only [Option.some.injEq] at hb
    subst hb
    refine ⟨_,?_,avr_str⟩
    have hmax:IntKind.i64.max = 9223372036854775807:=by decide
    have hno:¬ (((p.length + q.length:Nat):Int) > IntKind.i64.max):=by rw [hmax];omega
    simp only [Sem.run_bind,hg,Result.andThen,binOp,Op.stringOp,str_size,str_append,hno,if_false,Sem.run_pure]
   ·cases hb
  ·simp only [Option.some.injEq] at hb
   subst hb
   exact ⟨_,by simp only [Sem.run_bind,hg,Result.andThen,binOp,Op.stringOp,str_toList,Sem.run_pure],avr_val rfl⟩
  ·simp only [Option.some.injEq] at hb
   subst hb
   exact ⟨_,by simp only [Sem.run_bind,hg,Result.andThen,binOp,Op.stringOp,str_toList,Sem.run_pure],avr_val rfl⟩
  ·simp only [Option.some.injEq] at hb
   subst hb
   exact ⟨_,by simp only [Sem.run_bind,hg,Result.andThen,binOp,Op.stringOp,str_toList,Sem.run_pure],avr_val rfl⟩
  ·cases hb
 ·cases hb
theorem run_beq {t:TypeId} (ht:P.underlying t = some .bool) {x y:Operand} {p q:Bool} (neg:Bool) :
  (do eqGuard (if neg then .neq else .eql) t x y (.bool p) (.bool q);binOp (if neg then .neq else .eql) t (.bool p) (.bool q):Sem Value).run P w = .ok (.bool (if neg then !(p == q) else p == q)) w:=by
 have hg:∀ op,(eqGuard op t x y (.bool p) (.bool q)).run P w = .ok () w:=fun op=>run_guard (by simp) (by simp)
 have he:(Op.equal t (.bool p) (.bool q)).run P w = .ok (p == q) w:=by
  show (Op.equalIn (9999 + 1) t (.bool p) (.bool q)).run P w = _
  rw [Op.equalIn]
  simp only [Sem.run_bind,run_underlying ht,Result.andThen,Sem.run_pure]
 cases neg
 ·simp only [Sem.run_bind,hg,Result.andThen,binOp,he,Sem.run_pure,Bool.false_eq_true,if_false]
 ·simp only [Sem.run_bind,hg,Result.andThen,binOp,he,Sem.run_pure,if_true]
end Go.Am
namespace Go.Am
open Go.RowKit
variable {P:Program} {w w1 w2 w':World} {M0:Nat -> Prop} {h h1 h2 h':List Blk} {hd hd1 hd2 hd':Nat -> Value} {B0:Nat} {bad:Nat -> Prop}
theorem strCells_get:∀ (l:List Cell) (s:List (List UInt8)),strCells l = some s -> l = s.map fun x=>.c (.str x)
 | [],s,hs=>by simp [strCells] at hs;subst hs;rfl
 | .c (.str x) :: r,s,hs=>by
  simp only [strCells,Option.map_eq_some_iff] at hs
  obtain ⟨t,ht,rfl⟩:=hs
  rw [strCells_get r t ht];rfl
 | .c (.val _) :: _,s,hs=>by simp [strCells] at hs
 | .c (.sl _ _) :: _,s,hs=>by simp [strCells] at hs
 | .own _ _ :: _,s,hs=>by simp [strCells] at hs
 | .ptr _ _ _ _ :: _,s,hs=>by simp [strCells] at hs
 | .iptr _ :: _,s,hs=>by simp [strCells] at hs
 | .slx _ _ :: _,s,hs=>by simp [strCells] at hs
 | .fn _ _ :: _,s,hs=>by simp [strCells] at hs
 | .mfn _ _ :: _,s,hs=>by simp [strCells] at hs
 | .junk :: _,s,hs=>by simp [strCells] at hs
theorem AVR.strs {s:List (List UInt8)} {v:Value} (hx:AVR w bad h hd (.agg (s.map fun x=>.c (.str x))) v):v = .agg (s.map fun x=>Value.string ⟨x.toArray⟩).toArray:=by
 cases hx with
 | agg l vs hl hv =>
  congr 2
  apply List.ext_getElem?
  intro i
  cases hi:vs[i]? with
  | none =>
   have:s.length <= i:=by have:=List.getElem?_eq_none_iff.1 hi;simp at hl;omega
   rw [List.getElem?_eq_none (by simpa using this)]
  | some v =>
   have hlt:i < s.length:=by have:=(List.getElem?_eq_some_iff.1 hi).1;simp at hl;omega
   have:=hv i (.c (.str s[i])) v (by simp [hlt]) hi
   cases this with
   | c _ _ hc=>cases hc;simp [hlt]
theorem run_eqFields_str (d:Nat) (s t:List (List UInt8)):∀ (fs:List Field) (i:Nat),strFields P i fs = true -> i + fs.length = s.length -> i + fs.length = t.length ->
  (Op.eqFields (d + 1) (s.map fun x=>Value.string ⟨x.toArray⟩).toArray (t.map fun x=>Value.string ⟨x.toArray⟩).toArray fs).run P w = .ok (s.drop i == t.drop i) w
 | [],i,_,h1,h2=>by
  simp only [List.length_nil,Nat.add_zero] at h1 h2
  rw [List.drop_eq_nil_of_le (by omega),List.drop_eq_nil_of_le (by omega)]
  rfl
 | f :: fs,i,hf,h1,h2=>by
  simp only [strFields,Bool.and_eq_true,bne_iff_ne,ne_eq,beq_iff_eq] at hf
  obtain ⟨⟨⟨hname,hoff⟩,hty⟩,hrest⟩:=hf
  have hu:P.underlying f.type = some .string:=by
   split at hty
   ·assumption
   ·cases hty
  simp only [List.length_cons] at h1 h2
  have his:i < s.length:=by omega
  have hit:i < t.length:=by omega
  have hag:(isAgg f.type).run P w = .ok false w:=by simp [isAgg,run_underlying hu,Result.andThen]
  have hp:∀ (r:List (List UInt8)) (hi:i < r.length),(part f.type (r.map fun x=>Value.string ⟨x.toArray⟩).toArray f.offset).run P w = .ok (.string ⟨(r[i]).toArray⟩) w:=fun r hi=>by
   simp [part,hag,hoff,hi,Result.andThen]
  have ih:=run_eqFields_str d s t fs (i + 1) hrest (by omega) (by omega)
  rw [Op.eqFields,if_pos hname]
  simp only [Sem.run_bind,hp s his,hp t hit,Result.andThen,run_equalIn_string w d f.type _ _ hu,str_toList,Sem.run_ite,Sem.run_pure]
  have e1:s.drop i = s[i] :: s.drop (i + 1):=List.drop_eq_getElem_cons his
  have e2:t.drop i = t[i] :: t.drop (i + 1):=List.drop_eq_getElem_cons hit
  have key:(s.drop i == t.drop i) = (s[i] == t[i] && (s.drop (i + 1) == t.drop (i + 1))):=by rw [e1,e2,List.cons_beq_cons]
  rw [key]
  by_cases he:s[i] = t[i]
  ·simp only [he,beq_self_eq_true,Bool.not_true,Bool.false_eq_true,if_false,ih,Bool.true_and]
  ·have:(s[i] == t[i]) = false:=by simpa using he
   simp only [this,Bool.not_false,if_true,Bool.false_and]
theorem run_aggeq {t:TypeId} {fs:Array Field} (ht:P.underlying t = some (.struct fs)) (hf:strFields P 0 fs.toList = true) (hp:P.stoodInHeld t = false) (hg:P.eqGuardType P.depth t = false) {x y:Operand}
  (s r:List (List UInt8)) (hs:s.length = fs.size) (hr:r.length = fs.size) (neg:Bool) :
  (do eqGuard (if neg then .neq else .eql) t x y (.agg (s.map fun x=>Value.string ⟨x.toArray⟩).toArray) (.agg (r.map fun x=>Value.string ⟨x.toArray⟩).toArray)
      binOp (if neg then .neq else .eql) t (.agg (s.map fun x=>Value.string ⟨x.toArray⟩).toArray) (.agg (r.map fun x=>Value.string ⟨x.toArray⟩).toArray):Sem Value).run P w = .ok (.bool (if neg then !(s == r) else s == r)) w:=by
 have hfo:P.fieldsOf t = fs:=by simp [Program.fieldsOf,ht]
 have hgd:∀ op,(eqGuard op t x y (.agg (s.map fun x=>Value.string ⟨x.toArray⟩).toArray) (.agg (r.map fun x=>Value.string ⟨x.toArray⟩).toArray)).run P w = .ok () w:=fun op=>by
  unfold eqGuard
  cases op <;> simp [hg,Result.andThen]
 have he:(Op.equal t (.agg (s.map fun x=>Value.string ⟨x.toArray⟩).toArray) (.agg (r.map fun x=>Value.string ⟨x.toArray⟩).toArray)).run P w = .ok (s == r) w:=by
  show (Op.equalIn (9999 + 1) t _ _).run P w = _
  rw [run_equalIn_struct w 9999 t _ _ (by rw [hfo];exact ht) hp,hfo]
  have:=run_eqFields_str (P:=P) (w:=w) 9998 s r fs.toList 0 hf (by simpa using hs.symm) (by simpa using hr.symm)
  simpa using this
 cases neg
 ·simp only [Sem.run_bind,hgd,Result.andThen,binOp,he,Sem.run_pure,Bool.false_eq_true,if_false]
 ·simp only [Sem.run_bind,hgd,Result.andThen,binOp,he,Sem.run_pure,if_true]
theorem isNilAV_val (H:HR B0 M0 w h hd) {fn:Bool} {a:AV} {u:Value} {b:Bool} (hu:AVR w (badOf M0 h hd) h hd a u) (hb:isNilAV h fn a = some b) :
  (fn = false /\ ∃ p l c,u = .slice p l c /\ p.isNone = b) \/ (fn = true /\ ((b = true /\ u = .nilFunc) \/ (b = false /\ ∃ f x y,u = .func f x y))):=by
 unfold isNilAV at hb
 split at hb
 ·cases fn <;> simp at hb
  subst hb
  cases hu with | one _ _ hv=>cases hv with | c _ _ hc=>cases hc with | sl=>exact .inl ⟨rfl,_,_,_,rfl,rfl⟩ | emp=>exact .inl ⟨rfl,_,_,_,rfl,rfl⟩
 ·cases fn <;> simp at hb
  subst hb
  cases hu with | one _ _ hv=>cases hv with | slx=>exact .inl ⟨rfl,_,_,_,rfl,rfl⟩
 ·cases fn <;> simp at hb
  subst hb
  obtain rfl:=hu.val
  exact .inl ⟨rfl,_,_,_,rfl,rfl⟩
 ·rename_i b' ver
  cases fn
  ·cases hk:h[b']? with
   | none=>simp [hk] at hb
   | some k =>
    simp only [hk,Bool.false_eq_true,if_false] at hb
    split at hb
    ·rename_i hc
     simp only [Option.some.injEq] at hb
     subst hb
     have hv:=own_hd hu hk hc.1
     have hnn:=H.nn b' k hk
     obtain ⟨_,xs,ho,_⟩:=H.blk b' k hk
     rcases ho.2 with ⟨h0,_⟩ | ⟨g,cap,cur,hh,_⟩
     ·exact .inl ⟨rfl,_,_,_,hv.trans h0,by rw [hnn.2 h0];rfl⟩
     ·refine .inl ⟨rfl,_,_,_,hv.trans hh,?_⟩
      cases hq:k.nn with
      | true=>rfl
      | false=>have:=hnn.1 hq;rw [hh] at this;cases this
    ·cases hb
  ·simp at hb
 ·cases fn <;> simp at hb
  subst hb
  cases hu with | one _ _ hv=>cases hv with | fn=>exact .inr ⟨rfl,.inr ⟨rfl,_,_,_,rfl⟩⟩
 ·cases fn <;> simp at hb
  subst hb
  obtain rfl:=hu.val
  exact .inr ⟨rfl,.inl ⟨rfl,rfl⟩⟩
 ·cases hb
theorem run_isnil_slice {t e:TypeId} (ht:P.underlying t = some (.slice e)) (p:Option Addr) (l c:Nat) (neg:Bool) {x y:Operand} :
  (do eqGuard (if neg then .neq else .eql) t x y (.slice p l c) (.slice none 0 0);binOp (if neg then .neq else .eql) t (.slice p l c) (.slice none 0 0):Sem Value).run P w = .ok (.bool (if neg then !p.isNone else p.isNone)) w:=by
 have hg:∀ op,(eqGuard op t x y (.slice p l c) (.slice none 0 0)).run P w = .ok () w:=fun op=>run_guard (by simp) (by simp)
 have he:=run_equal_slice_nil (P:=P) w t e p l c ht
 cases neg
 ·simp only [Sem.run_bind,hg,Result.andThen,binOp,he,Sem.run_pure,Bool.false_eq_true,if_false]
 ·simp only [Sem.run_bind,hg,Result.andThen,binOp,he,Sem.run_pure,if_true]
theorem run_isnil_func {t:TypeId} {ps rs:Array TypeId} {vr:Bool} (ht:P.underlying t = some (.func ps rs vr)) {u:Value} {b:Bool} (hu:(b = true /\ u = .nilFunc) \/ (b = false /\ ∃ f x y,u = .func f x y)) (neg:Bool) {x y:Operand} :
  (do eqGuard (if neg then .neq else .eql) t x y u .nilFunc;binOp (if neg then .neq else .eql) t u .nilFunc:Sem Value).run P w = .ok (.bool (if neg then !b else b)) w:=by
 have hg:∀ op,(eqGuard op t x y u .nilFunc).run P w = .ok () w:=fun op=>run_guard (by simp) (by rcases hu with ⟨_,rfl⟩ | ⟨_,f,a,c,rfl⟩ <;> simp)
 have he:(Op.equal t u .nilFunc).run P w = .ok b w:=by
  show (Op.equalIn (9999 + 1) t u .nilFunc).run P w = _
  rw [Op.equalIn]
  rcases hu with ⟨rfl,rfl⟩ | ⟨rfl,f,a,c,rfl⟩ <;> simp only [Sem.run_bind,run_underlying ht,Result.andThen,Sem.run_pure]
 have hbin:∀ (op:BinOp),(op = .eql -> (binOp op t u .nilFunc).run P w = .ok (.bool b) w) /\ (op = .neq -> (binOp op t u .nilFunc).run P w = .ok (.bool (!b)) w):=fun op=>by
  rcases hu with ⟨rfl,rfl⟩ | ⟨rfl,f,a,c,rfl⟩ <;>
   exact ⟨fun e=>by subst e;simp only [binOp,Sem.run_bind,he,Result.andThen,Sem.run_pure],fun e=>by subst e;simp only [binOp,Sem.run_bind,he,Result.andThen,Sem.run_pure]⟩
 cases neg
 ·simp only [Sem.run_bind,hg,Result.andThen,(hbin _).1 rfl,Bool.false_eq_true,if_false]
 ·simp only [Sem.run_bind,hg,Result.andThen,(hbin _).2 rfl,if_true]
end Go.Am
namespace Go.Am
open Go.RowKit
variable {P:Program} {w w1 w2 w':World} {M0:Nat -> Prop} {h h1 h2 h':List Blk} {hd hd1 hd2 hd':Nat -> Value} {B0:Nat} {bad:Nat -> Prop}
theorem zipIdx_splice (off:Nat):∀ (l:List Value) (k:Nat) (cells:Array Value),off + k + l.length <= cells.size ->
  ((l.zipIdx k).foldl (fun cs (p:Value × Nat)=>cs.setIfInBounds (off + p.2) p.1) cells).toList = cells.toList.take (off + k) ++ l ++ cells.toList.drop (off + k + l.length)
 | [],k,cells,_=>by simp
 | v :: l,k,cells,hle=>by
  simp only [List.length_cons] at hle
  rw [List.zipIdx_cons,List.foldl_cons,zipIdx_splice off l (k + 1) _ (by simp;omega)]
  simp only [Array.toList_setIfInBounds]
  have h1:(cells.toList.set (off + k) v).take (off + (k + 1)) = cells.toList.take (off + k) ++ [v]:=by
   apply List.ext_getElem?
   intro i
   simp only [List.getElem?_take,List.getElem?_set,List.getElem?_append,List.length_take,Array.length_toList]
   rw [Nat.min_eq_left (by omega)]
   by_cases hi:i < off + k
   ·rw [if_pos (by omega),if_pos hi,if_neg (by omega),if_pos hi]
   ·rw [if_neg hi]
    by_cases he:i = off + k
    ·subst he;rw [if_pos (by omega),if_pos rfl,if_pos (by omega)];simp
    ·rw [if_neg (by omega),List.getElem?_eq_none (by simp;omega)]
  rw [h1,List.drop_set_of_lt (by omega)]
  simp [List.append_assoc,Nat.add_assoc,Nat.add_comm 1]
theorem fill_ok (place:Nat -> Option (Nat × Nat)):∀ (ps:List (Nat × Nat × AV)) (vs:List (Nat × Value)) (cs cs':List Cell) (us:Array Value),ps.length = vs.length ->
  (∀ (i:Nat) (p:Nat × Nat × AV) (v:Nat × Value),ps[i]? = some p -> vs[i]? = some v -> place v.1 = some (p.1,p.2.1) /\ AVR w bad h hd p.2.2 v.2) -> PW (VR w bad h hd) cs us.toList ->
  ps.foldlM (fun cs p=>p.2.2.cells?.bind fun pc=>if pc.length = p.2.1 /\ p.1 + pc.length <= cs.length then some (cs.take p.1 ++ pc ++ cs.drop (p.1 + pc.length)) else none) cs = some cs' ->
  ∃ us',Instr.fill place us vs = some us' /\ PW (VR w bad h hd) cs' us'.toList
 | [],[],cs,cs',us,_,_,hp,hf=>by
  simp only [List.foldlM_nil,Option.pure_def,Option.some.injEq] at hf
  subst hf
  exact ⟨us,rfl,hp⟩
 | p :: ps,[],cs,cs',us,hl,_,_,_=>by simp at hl
 | [],v :: vs,cs,cs',us,hl,_,_,_=>by simp at hl
 | p :: ps,v :: vs,cs,cs',us,hl,hh,hp,hf=>by
  obtain ⟨hpl,hv⟩:=hh 0 p v rfl rfl
  rw [List.foldlM_cons] at hf
  cases hc:p.2.2.cells? with
  | none=>simp [hc] at hf
  | some pc =>
   simp only [hc,Option.bind_some,Option.bind_eq_bind] at hf
   split at hf
   ·rename_i hcond
    simp only [Option.bind_some] at hf
    have hpw:=hv.pw hc
    have hsz:v.2.cells.size = p.2.1:=by rw [<- hcond.1,hpw.1];simp
    have hus:us.size = cs.length:=by rw [hp.1];simp
    have hle:p.1 + 0 + v.2.cells.toList.length <= us.size:=by have:=hpw.1;simp only [Nat.add_zero];omega
    have hsp:=zipIdx_splice p.1 v.2.cells.toList 0 us hle
    obtain ⟨us',h1,h2⟩:=fill_ok place ps vs _ cs' ((v.2.cells.toList.zipIdx 0).foldl (fun cs (q:Value × Nat)=>cs.setIfInBounds (p.1 + q.2) q.1) us) (by simpa using hl) (fun i p v h1 h2=>hh (i + 1) p v (by simpa using h1) (by simpa using h2))
     (by
      rw [hsp]
      simp only [Nat.add_zero]
      rw [<- hpw.1]
      exact ((hp.take _).append hpw).append (hp.drop _)) hf
    refine ⟨us',?_,h2⟩
    obtain ⟨i,u⟩:=v
    simp only at hpl hsz hle h1 ⊢
    rw [Instr.fill,hpl]
    have hno:¬ ((u.cells.size ≠ p.2.1 || decide (p.1 + u.cells.size > us.size)) = true):=by
     simp only [Nat.add_zero,Array.length_toList] at hle
     simp [hsz];omega
    simp only [hno,if_false,Bool.false_eq_true]
    rw [<- h1]
    congr 1
    rw [<- Array.foldl_toList]
    simp
   ·cases hf
theorem mapM_sizes:∀ (l:List Field),(∀ f ∈ l,(szOf P f.type).isSome = true) ->
  (l.mapM fun f=>(do pure (f.offset,<- sizeOf f.type):Sem (Nat × Nat))).run P w = .ok (l.map fun f=>(f.offset,(szOf P f.type).getD 0)) w
 | [],_=>rfl
 | f :: l,hl=>by
  have h0:=hl f (by simp)
  have ih:=mapM_sizes l (fun f hf=>hl f (by simp [hf]))
  unfold szOf at h0
  cases hi:P.info? f.type with
  | none=>simp [hi] at h0
  | some i =>
   rw [List.mapM_cons]
   simp only [Sem.run_bind,sizeOf,typeInfo,run_program,hi,Result.andThen,Sem.run_pure]
   simp only [Sem.run_bind,sizeOf,typeInfo,run_program,Result.andThen,Sem.run_pure] at ih
   rw [ih]
   simp [szOf,hi]
theorem zeroT_run {t:TypeId} {zs:List Value} (hz:zeroT P t = some zs):∃ z,(zeroValue t).run P w = .ok z w /\ z.cells.toList = zs:=by
 unfold zeroT at hz
 cases hi:P.info? t with
 | none=>simp [hi] at hz
 | some i =>
  cases hq:i.zero with
  | none=>simp [hi,hq] at hz
  | some z =>
   simp only [hi,hq,Option.bind_some,Option.map_some,Option.some.injEq] at hz
   exact ⟨z,by simp [zeroValue,typeInfo,hi,hq,Result.andThen],hz⟩
theorem szOf_run {t:TypeId} {n:Nat} (hn:szOf P t = some n):(sizeOf t).run P w = .ok n w:=by
 unfold szOf at hn
 cases hi:P.info? t with
 | none=>simp [hi] at hn
 | some i=>simp only [hi,Option.map_some,Option.some.injEq] at hn;simp [sizeOf,typeInfo,hi,hn,Result.andThen]
theorem aggT_run {t:TypeId} {b:Bool} (hn:aggT P t = some b):(isAgg t).run P w = .ok b w:=by
 unfold aggT at hn
 cases hu:P.underlying t with
 | none=>simp [hu] at hn
 | some d =>
  simp only [hu,Option.map_some,Option.some.injEq] at hn
  subst hn
  cases d <;> simp [isAgg,run_underlying hu,Result.andThen]
theorem run_build_struct {t:TypeId} {fs:Array Field} {zs:List Value} (ht:P.underlying t = some (.struct fs)) (hz:zeroT P t = some zs) (h1:zs.all (·.oneCell') = true) (hfs:fs.all (fun f=>(szOf P f.type).isSome) = true)
  {ps:List (Nat × Nat × AV)} {vs:List (Nat × Value)} (hl:ps.length = vs.length)
  (hh:∀ (i:Nat) (p:Nat × Nat × AV) (v:Nat × Value),ps[i]? = some p -> vs[i]? = some v -> (∃ f,fs[v.1]? = some f /\ p.1 = f.offset /\ szOf P f.type = some p.2.1) /\ AVR w bad h hd p.2.2 v.2) {cs:List Cell}
  (hf:ps.foldlM (fun cs p=>p.2.2.cells?.bind fun pc=>if pc.length = p.2.1 /\ p.1 + pc.length <= cs.length then some (cs.take p.1 ++ pc ++ cs.drop (p.1 + pc.length)) else none) (zs.map fun v=>Cell.c (.val v)) = some cs) :
  ∃ v,(Instr.build t vs.toArray).run P w = .ok v w /\ AVR w bad h hd (.agg cs) v:=by
 obtain ⟨z,hzr,hzc⟩:=zeroT_run (w:=w) hz
 have hm:(fs.mapM fun f=>(do pure (f.offset,<- sizeOf f.type):Sem (Nat × Nat))).run P w = .ok (fs.toList.map fun f=>(f.offset,(szOf P f.type).getD 0)).toArray w:=by
  rw [Array.mapM_eq_mapM_toList]
  have:=mapM_sizes (P:=P) (w:=w) fs.toList (fun f hf=>by
   rw [Array.all_eq_true] at hfs
   obtain ⟨i,hi,rfl⟩:=List.getElem_of_mem hf
   simpa using hfs i (by simpa using hi))
  simp only [Sem.run_map,this,Result.andThen]
 obtain ⟨us',hfill,hpw⟩:=fill_ok (w:=w) (bad:=bad) (h:=h) (hd:=hd) (fun i=>(fs.toList.map fun f=>(f.offset,(szOf P f.type).getD 0)).toArray[i]?) ps vs _ cs z.cells hl
  (fun i p v hp hv=>by
   obtain ⟨⟨f,hf,ho,hs⟩,ha⟩:=hh i p v hp hv
   refine ⟨?_,ha⟩
   have hf':fs.toList[v.1]? = some f:=by simpa using hf
   simp [hf',ho,hs]) (by rw [hzc];exact zero_pw h1) hf
 refine ⟨.agg us',?_,?_⟩
 ·simp only [Instr.build,Sem.run_bind,hzr,run_underlying ht,Result.andThen,hm,Sem.run_pure]
  rw [hfill]
  rfl
 ·have:=AVR.agg (w:=w) (bad:=bad) (h:=h) (hd:=hd) cs us'.toList hpw.1 hpw.2
  simpa using this
theorem run_build_array {t e:TypeId} {n s:Nat} {zs:List Value} (ht:P.underlying t = some (.array n e)) (hz:zeroT P t = some zs) (h1:zs.all (·.oneCell') = true) (hs:szOf P e = some s)
  {ps:List (Nat × Nat × AV)} {vs:List (Nat × Value)} (hl:ps.length = vs.length)
  (hh:∀ (i:Nat) (p:Nat × Nat × AV) (v:Nat × Value),ps[i]? = some p -> vs[i]? = some v -> (p.1 = v.1 * s /\ p.2.1 = s) /\ AVR w bad h hd p.2.2 v.2) {cs:List Cell}
  (hf:ps.foldlM (fun cs p=>p.2.2.cells?.bind fun pc=>if pc.length = p.2.1 /\ p.1 + pc.length <= cs.length then some (cs.take p.1 ++ pc ++ cs.drop (p.1 + pc.length)) else none) (zs.map fun v=>Cell.c (.val v)) = some cs) :
  ∃ v,(Instr.build t vs.toArray).run P w = .ok v w /\ AVR w bad h hd (.agg cs) v:=by
 obtain ⟨z,hzr,hzc⟩:=zeroT_run (w:=w) hz
 obtain ⟨us',hfill,hpw⟩:=fill_ok (w:=w) (bad:=bad) (h:=h) (hd:=hd) (fun i=>some (i * s,s)) ps vs _ cs z.cells hl
  (fun i p v hp hv=>by
   obtain ⟨⟨ho,hs⟩,ha⟩:=hh i p v hp hv
   exact ⟨by rw [ho,hs],ha⟩) (by rw [hzc];exact zero_pw h1) hf
 refine ⟨.agg us',?_,?_⟩
 ·simp only [Instr.build,Sem.run_bind,hzr,run_underlying ht,Result.andThen,szOf_run hs,Sem.run_pure]
  rw [hfill]
  rfl
 ·have:=AVR.agg (w:=w) (bad:=bad) (h:=h) (hd:=hd) cs us'.toList hpw.1 hpw.2
  simpa using this
theorem fill_row {s:Nat}:∀ (rows:List (List Cell)) (vs:List Value) (k:Nat) (us:Array Value),rows.length = vs.length ->
  (∀ (i:Nat) (r:List Cell) (v:Value),rows[i]? = some r -> vs[i]? = some v -> r.length = s /\ PW (VR w bad h hd) r v.cells.toList) -> (k + rows.length) * s = us.size -> ∀ (pre:List Cell),PW (VR w bad h hd) pre (us.toList.take (k * s)) ->
  ∃ us',Instr.fill (fun i=>some (i * s,s)) us ((vs.zipIdx k).map fun p=>(p.2,p.1)) = some us' /\ PW (VR w bad h hd) (pre ++ rows.flatten) us'.toList /\ us'.size = us.size
 | [],[],k,us,_,_,hsz,pre,hp=>by
  refine ⟨us,rfl,?_,rfl⟩
  simp only [List.length_nil,Nat.add_zero] at hsz
  rw [List.take_of_length_le (by simp [hsz])] at hp
  simpa using hp
 | [],_ :: _,k,us,hl,_,_,_,_=>by simp at hl
 | _ :: _,[],k,us,hl,_,_,_,_=>by simp at hl
 | r :: rows,v :: vs,k,us,hl,hh,hsz,pre,hp=>by
  obtain ⟨hr,hpw⟩:=hh 0 r v rfl rfl
  have hvs:v.cells.size = s:=by have:=hpw.1;simp at this;omega
  simp only [List.length_cons] at hsz
  have hle:k * s + 0 + v.cells.toList.length <= us.size:=by
   have:(k + 1) * s <= (k + (rows.length + 1)) * s:=Nat.mul_le_mul_right _ (by omega)
   rw [Nat.add_mul,Nat.one_mul] at this
   simp only [Array.length_toList]
   omega
  have hsp:=zipIdx_splice (k * s) v.cells.toList 0 us hle
  have hsz2:((v.cells.toList.zipIdx 0).foldl (fun cs (q:Value × Nat)=>cs.setIfInBounds (k * s + q.2) q.1) us).size = us.size:=by
   have:=congrArg List.length hsp
   simp at this
   simp only [Array.length_toList] at hle
   omega
  have hpre:PW (VR w bad h hd) (pre ++ r) (((v.cells.toList.zipIdx 0).foldl (fun cs (q:Value × Nat)=>cs.setIfInBounds (k * s + q.2) q.1) us).toList.take ((k + 1) * s)):=by
   rw [hsp]
   simp only [Nat.add_zero]
   have hlp:(us.toList.take (k * s)).length = k * s:=by
    simp only [List.length_take,Array.length_toList];simp only [Array.length_toList] at hle;omega
   have e:(k + 1) * s = (us.toList.take (k * s) ++ v.cells.toList).length:=by
    rw [List.length_append,hlp];simp [hvs,Nat.add_mul]
   rw [e,List.take_left]
   exact hp.append hpw
  obtain ⟨us',h1,h2,h3⟩:=fill_row rows vs (k + 1) _ (by simpa using hl) (fun i r v h1 h2=>hh (i + 1) r v (by simpa using h1) (by simpa using h2)) (by rw [hsz2,<- hsz];congr 1;omega) (pre ++ r) hpre
  refine ⟨us',?_,by simpa [List.append_assoc] using h2,h3.trans hsz2⟩
  rw [List.zipIdx_cons,List.map_cons,Instr.fill]
  have hno:¬ ((v.cells.size ≠ s || decide (k * s + v.cells.size > us.size)) = true):=by
   simp only [Nat.add_zero,Array.length_toList] at hle
   simp [hvs];omega
  simp only [hno,if_false,Bool.false_eq_true]
  rw [<- h1]
  congr 1
  rw [<- Array.foldl_toList]
  simp
theorem gv_mkrow (H:HR B0 M0 w h hd) (hM:∀ g,M0 g -> g < w.heap.size) (hB:B0 <= w.heap.size) {t e:TypeId} {s:Nat} {zs:List Value} (ht:P.underlying t = some (.slice e)) (hs:szOf P e = some s) (hz:zeroT P e = some zs) (hzs:zs.length = s) (hs0:0 < s)
  {rows:List (List Cell)} {vs:List Value} (hl:rows.length = vs.length) (hh:∀ (i:Nat) (r:List Cell) (v:Value),rows[i]? = some r -> vs[i]? = some v -> r.length = s /\ PW (VR w (badOf M0 h hd) h hd) r v.cells.toList)
  (hlim:rows.length * s <= 16777216) (hmax:rows.length <= maxLen) {parts:Array (Nat × Value)} (hparts:parts.toList = (vs.zipIdx 0).map fun p=>(p.2,p.1)) :
  GV P B0 M0 w h hd (Instr.buildSlice t rows.length parts) (.one (.own h.length 0)) (h ++ [⟨0,e,s,rows,true,true⟩]):=by
 obtain ⟨z,hzr,hzc⟩:=zeroT_run (w:=w) hz
 have hzsz:z.cells.size = s:=by rw [<- hzs,<- hzc];simp
 have hinit:∃ us0:Array Value,us0.size = rows.length * s /\ ((if rows.length * s = 0 then pure #[] else do pure (<- zeroValue e).cells:Sem (Array Value)).run P w = .ok (if rows.length * s = 0 then #[] else z.cells) w) /\
   us0 = (Array.range (rows.length * s)).map ((if rows.length * s = 0 then #[] else z.cells)[· % (if rows.length * s = 0 then #[] else z.cells).size]!):=by
  refine ⟨_,?_,?_,rfl⟩
  ·simp
  ·by_cases h0:rows.length * s = 0 <;> simp [h0,hzr,Result.andThen]
 obtain ⟨us0,hus0,hz0,hus0e⟩:=hinit
 obtain ⟨us',hfill,hpw,hsz'⟩:=fill_row (s:=s) rows vs 0 us0 hl hh (by rw [hus0];simp) [] (by simpa using PW.nil)
 have hrun:(Instr.buildSlice t rows.length parts).run P w = .ok (.slice (some ⟨w.heap.size,0,none⟩) rows.length rows.length) (w.alloc (.cells us' e)):=by
  have hlim':¬ (rows.length * s > 2 ^ 24):=by omega
  simp only [Instr.buildSlice,Sem.run_bind,run_underlying ht,Result.andThen,szOf_run hs,hlim',if_false,Sem.run_pure]
  rw [hparts]
  by_cases h0:rows.length * s = 0
  ·rw [if_pos h0] at hus0e
   simp only [h0,if_true,Sem.run_bind,Sem.run_pure,Result.andThen] at hus0e ⊢
   rw [<- hus0e,hfill]
   simp [newRow,Result.andThen]
  ·rw [if_neg h0] at hus0e
   simp only [h0,if_false,Sem.run_bind,Sem.run_pure,hzr,Result.andThen]
   rw [<- hus0e,hfill]
   simp [newRow,Result.andThen]
 have hrow:∀ (i:Nat) (r:List Cell),rows[i]? = some r -> r.length = s:=fun i r hi =>
  (hh i r (vs[i]'(by rw [<- hl];exact (List.getElem?_eq_some_iff.1 hi).1)) hi (List.getElem?_eq_getElem _)).1
 refine gv_row H hM hrow (xs:=us'.toList) (by simpa using hpw) hrun (World.grownBy_alloc w _ none) ?_ (fun g hg=>by simp [Value.ownBlock] at hg;omega) (by simp)
 have:=World.ownsRow_lit (base:=B0) (e:=e) (size:=s) w us' rows.length hB hmax (by rw [hsz',hus0])
 exact this
end Go.Am
namespace Go.Am
open Go.RowKit
variable {P:Program} {w w1 w2 w':World} {M0:Nat -> Prop} {h h1 h2 h':List Blk} {hd hd1 hd2 hd':Nat -> Value} {B0:Nat} {bad:Nat -> Prop}
def GN (P:Program) (B0:Nat) (M0:Nat -> Prop) (w:World) (h:List Blk) (hd:Nat -> Value) (s:Sem Next) (dst:Option Tmp) (av:AV) (h':List Blk):Prop :=
 ∃ nx w' hd' row,s.run P w = .ok nx w' /\ w.grownBy w' row /\ RowOk h hd row /\ HR B0 M0 w' h' hd' /\ Tr w (badOf M0 h hd) h hd w' (badOf M0 h' hd') h' hd' /\
  ((∃ v,nx = .value v /\ AVR w' (badOf M0 h' hd') h' hd' av v) \/ (nx = .skip /\ dst = none))
theorem GV.next {s:Sem Value} {dst:Option Tmp} {av:AV} (g:GV P B0 M0 w h hd s av h'):GN P B0 M0 w h hd (do pure (Next.value (<- s))) dst av h':=by
 obtain ⟨v,w',hd',row,h1,h2,h3,h4,h5,h6⟩:=g
 exact ⟨.value v,w',hd',row,by simp [h1,Result.andThen],h2,h3,h4,h5,.inl ⟨v,rfl,h6⟩⟩
theorem GU.next {s:Sem Unit} {dst:Option Tmp} {av:AV} (hd0:dst = none) (g:GU P B0 M0 w h hd s h'):GN P B0 M0 w h hd (do s;pure Next.skip) dst av h':=by
 obtain ⟨w',hd',row,h1,h2,h3,h4,h5⟩:=g
 exact ⟨.skip,w',hd',row,by simp [h1,Result.andThen],h2,h3,h4,h5,.inr ⟨rfl,hd0⟩⟩
theorem GN.quiet (H:HR B0 M0 w h hd) {s:Sem Next} {dst:Option Tmp} {av:AV} {v:Value} (hr:s.run P w = .ok (.value v) w) (ha:AVR w (badOf M0 h hd) h hd av v):GN P B0 M0 w h hd s dst av h :=
 ⟨.value v,w,hd,none,hr,grownBy_refl w none,rowOk_none,H,.refl _ _ _ _,.inl ⟨v,rfl,ha⟩⟩
theorem constAV_ok (v:Value):AVR w bad h hd (constAV v) v:=by
 unfold constAV
 split
 ·rename_i cs
  split
  ·rename_i hall
   have:=AVR.agg (w:=w) (bad:=bad) (h:=h) (hd:=hd) (cs.toList.map fun v=>Cell.c (.val v)) cs.toList (by simp) (zero_pw hall).2
   simpa using this
  ·exact .junk _
 ·exact .junk _
 ·rename_i s
  have:=avr_str (w:=w) (bad:=bad) (h:=h) (hd:=hd) (s:=s.data.toList)
  simpa using this
 ·rename_i h1 h2 h3
  refine avr_val ?_
  cases v <;> first | rfl | (exact absurd rfl (h1 _)) | (exact absurd rfl (h2 _))
def Sees (w:World) (bad:Nat -> Prop) (st:St) (hd:Nat -> Value) (ρ:Operand -> Value):Prop:=∀ x,AVR w bad st.h hd (st.ev x) (ρ x)
theorem bytes_run {es:List (List Cell)} {bs:List UInt8} (hb:byteCells es = some bs) {news:List Value} (hp:PW (VR w bad h hd) es.flatten news) :
  ∃ ns:List Int,news = ns.map (Value.int .u8) /\ bs = ns.map fun n=>UInt8.ofNat n.toNat:=by
 induction es generalizing bs news with
 | nil =>
  simp only [byteCells,Option.some.injEq] at hb
  have:news = []:=List.eq_nil_of_length_eq_zero (by rw [<- hp.1];rfl)
  exact ⟨[],this,hb.symm⟩
 | cons r es ih =>
  unfold byteCells at hb
  split at hb
  ·cases ‹_ :: _ = []›
  ·rename_i n r' heq
   obtain ⟨rfl,rfl⟩:=List.cons.inj heq
   simp only [Option.map_eq_some_iff] at hb
   obtain ⟨t,ht,rfl⟩:=hb
   match news,hp with
   | [],hp=>exact absurd hp.1 (by simp)
   | u :: us,hp =>
    have h0:=hp.2 0 _ u rfl rfl
    have hu:u = .int .u8 n:=by cases h0 with | c _ _ hc=>cases hc;rfl
    obtain ⟨ns,h1,h2⟩:=ih ht ⟨by have:=hp.1;simpa using this,fun i c v hc hv=>hp.2 (i + 1) c v (by simpa using hc) (by simpa using hv)⟩
    exact ⟨n :: ns,by rw [hu,h1];rfl,by rw [h2];rfl⟩
  ·cases hb
theorem foldl_push (ns:List Int) (b:List UInt8):ns.foldl (fun r n=>r.push (UInt8.ofNat n.toNat)) (⟨b.toArray⟩:ByteArray) = ⟨(b ++ ns.map fun n=>UInt8.ofNat n.toNat).toArray⟩:=by
 induction ns generalizing b with
 | nil=>simp
 | cons n ns ih =>
  rw [List.foldl_cons]
  have:(⟨b.toArray⟩:ByteArray).push (UInt8.ofNat n.toNat) = ⟨(b ++ [UInt8.ofNat n.toNat]).toArray⟩:=by
   apply ByteArray.ext;simp [ByteArray.push]
  rw [this,ih]
  simp [List.append_assoc]
theorem lenAV_ok (H:HR B0 M0 w h hd) {str:Bool} {x:AV} {v:Value} {n:Nat} (hx:AVR w (badOf M0 h hd) h hd x v) (hn:lenAV h str x = some n) :
  (str = false /\ ∃ a c,v = .slice a n c) \/ (str = true /\ ∃ s:ByteArray,v = .string s /\ s.size = n):=by
 unfold lenAV at hn
 cases str
 ·simp only [Bool.false_eq_true,if_false] at hn
  refine .inl ⟨rfl,?_⟩
  split at hn
  ·rename_i b ver
   cases hk:h[b]? with
   | none=>simp [hk] at hn
   | some k =>
    simp only [hk] at hn
    split at hn
    ·rename_i hver
     simp only [Option.some.injEq] at hn
     subst hn
     obtain ⟨_,xs,ho,_⟩:=H.blk b k hk
     have hv:=own_hd hx hk hver.1
     rcases ho.2 with ⟨h0,h1⟩ | ⟨g,cap,cur,hh,_⟩
     ·rw [hv,h0,h1];exact ⟨_,_,rfl⟩
     ·rw [hv,hh];exact ⟨_,_,rfl⟩
    ·cases hn
  ·simp only [Option.some.injEq] at hn
   subst hn
   cases hx with | one _ _ hv=>cases hv with | c _ _ hc=>cases hc with | sl=>exact ⟨_,_,rfl⟩ | emp=>exact ⟨_,_,rfl⟩
  ·simp only [Option.some.injEq] at hn
   subst hn
   cases hx with | one _ _ hv=>cases hv with | slx=>exact ⟨_,_,rfl⟩
  ·cases hn
  ·simp only [Option.some.injEq] at hn
   subst hn
   obtain rfl:=hx.val
   exact ⟨_,_,rfl⟩
  ·cases hn
 ·simp only [if_true] at hn
  refine .inr ⟨rfl,?_⟩
  split at hn
  ·cases hn
  ·cases hn
  ·cases hn
  ·simp only [Option.some.injEq] at hn
   subst hn
   obtain rfl:=hx.strv
   exact ⟨_,rfl,str_size _⟩
  ·cases hn
  ·cases hn
theorem ptr_val {b ver i off:Nat} {v:Value} (hx:AVR w bad h hd (.one (.ptr b ver i off)) v) :
  (∃ blk g n cap,h[b]? = some blk /\ hd b = .slice (some ⟨g,0,none⟩) n cap /\ v = .pointer (some ⟨g,i * blk.e + off,none⟩) /\ ver = blk.ver) \/ (∃ blk,h[b]? = some blk /\ ver < blk.ver /\ v.oneCell' = true):=by
 cases hx with
 | one _ _ hv =>
  cases hv with
  | ptr b i off blk g n cap hb hh=>exact .inl ⟨blk,g,n,cap,hb,hh,rfl,rfl⟩
  | ptrStale b ver i off blk v hb hlt h1=>exact .inr ⟨blk,hb,hlt,h1⟩
theorem iptr_drop {l:List CV} {n:Nat} {v:Value} (hx:AVR w bad h hd (.one (.iptr l)) v):∃ g off,v = .pointer (some ⟨g,off,none⟩) /\ AVR w bad h hd (.one (.iptr (l.drop n))) (.pointer (some ⟨g,off + n,none⟩)):=by
 cases hx with
 | one _ _ hv =>
  cases hv with
  | iptr _ g off f hbad hlt hc hv =>
   refine ⟨g,off,rfl,.one _ _ (.iptr _ g (off + n) (fun j=>f (n + j)) hbad hlt (fun j x hj=>?_) (fun j x hj=>?_))⟩
   ·rw [List.getElem?_drop] at hj
    have:=hc _ x hj
    rwa [show off + n + j = off + (n + j) by omega]
   ·rw [List.getElem?_drop] at hj
    exact hv _ x hj
theorem sl_elem {e:Nat} {l:List (List CV)} {g off len cap:Nat} (hx:CR w bad (.sl e l) (.slice (some ⟨g,off,none⟩) len cap)) {i:Nat} {r:List CV} (hi:l[i]? = some r) :
  AVR w bad h hd (.one (.iptr r)) (.pointer (some ⟨g,off + i * e,none⟩)):=by
 obtain ⟨hbad,hlt,_,f,hc,hv⟩:=hx.lies_row hi
 exact .one _ _ (.iptr r g (off + i * e) f hbad hlt hc hv)
theorem closed_slice {e:Nat} {l:List (List CV)} {v:Value} (hx:AVR w bad h hd (.one (.c (.sl e l))) v):(∃ g off cap,v = .slice (some ⟨g,off,none⟩) l.length cap /\ CR w bad (.sl e l) (.slice (some ⟨g,off,none⟩) l.length cap)) \/ (l = [] /\ ∃ a,v = .slice (some a) 0 0):=by
 cases hx with
 | one _ _ hv =>
  cases hv with
  | c _ _ hc =>
   have hc':=hc
   cases hc with
   | sl _ _ g off cap f=>exact .inl ⟨g,off,cap,rfl,hc'⟩
   | emp _ a=>exact .inr ⟨rfl,a,rfl⟩
theorem slx_slice {e:Nat} {l:List (List CV)} {v:Value} (hx:AVR w bad h hd (.one (.slx e l)) v):∃ g off,v = .slice (some ⟨g,off,none⟩) l.length l.length /\ CR w bad (.sl e l) (.slice (some ⟨g,off,none⟩) l.length l.length):=by
 cases hx with
 | one _ _ hv =>
  cases hv with
  | slx _ _ g off hc=>exact ⟨g,off,rfl,hc⟩
theorem CR.len {e:Nat} {l:List (List CV)} {a:Option Addr} {n c:Nat} (hx:CR w bad (.sl e l) (.slice a n c)):n = l.length /\ n <= c:=by
 cases hx with
 | sl _ _ g off cap f hcap=>exact ⟨rfl,hcap⟩
 | emp=>exact ⟨rfl,Nat.le_refl _⟩
end Go.Am
namespace Go.Am
open Go.RowKit
variable {P:Program} {w w1 w2 w':World} {M0:Nat -> Prop} {h h1 h2 h':List Blk} {hd hd1 hd2 hd':Nat -> Value} {B0:Nat} {bad:Nat -> Prop}
theorem mapM_cells {st:St} {ρ:Operand -> Value} (hρ:Sees w bad st hd ρ) {e:Nat}:∀ (ps:List Operand) (rows:List (List Cell)),
  (ps.mapM fun p=>(st.ev p).cells?.bind fun cs=>if cs.length = e then some cs else none) = some rows ->
  rows.length = ps.length /\ ∀ (i:Nat) (r:List Cell) (v:Value),rows[i]? = some r -> (ps.map ρ)[i]? = some v -> r.length = e /\ PW (VR w bad st.h hd) r v.cells.toList
 | [],rows,hm=>by
  simp only [List.mapM_nil,Option.pure_def,Option.some.injEq] at hm
  subst hm
  exact ⟨rfl,fun i r v hi=>by simp at hi⟩
 | p :: ps,rows,hm=>by
  rw [List.mapM_cons] at hm
  simp only [Option.bind_eq_bind,Option.pure_def] at hm
  cases hc:(st.ev p).cells? with
  | none=>simp [hc] at hm
  | some cs =>
   simp only [hc,Option.bind_some] at hm
   by_cases hl:cs.length = e
   ·rw [if_pos hl] at hm
    simp only [Option.bind_some] at hm
    cases hr:(ps.mapM fun p=>(st.ev p).cells?.bind fun cs=>if cs.length = e then some cs else none) with
    | none=>simp [hr] at hm
    | some rs =>
     simp only [hr,Option.bind_some,Option.some.injEq] at hm
     subst hm
     obtain ⟨h1,h2⟩:=mapM_cells hρ ps rs hr
     refine ⟨by simp [h1],fun i r v hi hv=>?_⟩
     cases i with
     | zero =>
      simp at hi hv
      subst hi;subst hv
      exact ⟨hl,(hρ p).pw hc⟩
     | succ i=>exact h2 i r v (by simpa using hi) (by simpa using hv)
   ·rw [if_neg hl] at hm
    simp at hm
theorem mapM_ones {st:St} {ρ:Operand -> Value} (hρ:Sees w bad st hd ρ):∀ (ps:List Operand) (cs:List Cell),
  (ps.mapM fun p=>match st.ev p with | .one c=>some c | _=>none) = some cs -> cs.length = ps.length /\ ∀ (i:Nat) (c:Cell) (v:Value),cs[i]? = some c -> (ps.map ρ)[i]? = some v -> VR w bad st.h hd c v
 | [],cs,hm=>by
  simp only [List.mapM_nil,Option.pure_def,Option.some.injEq] at hm
  subst hm
  exact ⟨rfl,fun i r v hi=>by simp at hi⟩
 | p :: ps,cs,hm=>by
  rw [List.mapM_cons] at hm
  simp only [Option.bind_eq_bind,Option.pure_def] at hm
  cases hp:st.ev p with
  | one c =>
   simp only [hp,Option.bind_some] at hm
   cases hr:(ps.mapM fun p=>match st.ev p with | .one c=>some c | _=>none) with
   | none=>simp [hr] at hm
   | some rs =>
    simp only [hr,Option.bind_some,Option.some.injEq] at hm
    subst hm
    obtain ⟨h1,h2⟩:=mapM_ones hρ ps rs hr
    refine ⟨by simp [h1],fun i r v hi hv=>?_⟩
    cases i with
    | zero =>
     simp at hi hv
     subst hi;subst hv
     have:=hρ p
     rw [hp] at this
     cases this with | one _ _ hx=>exact hx
    | succ i=>exact h2 i r v (by simpa using hi) (by simpa using hv)
  | agg l=>simp [hp] at hm
  | tup l=>simp [hp] at hm
  | junk=>simp [hp] at hm
theorem foldlM_map {α β γ:Type} (f:γ -> β -> Option γ) (g:α -> β):∀ (l:List α) (c:γ),(l.map g).foldlM f c = l.foldlM (fun c a=>f c (g a)) c
 | [],_=>rfl
 | a :: l,c=>by
  simp only [List.map_cons,List.foldlM_cons]
  congr 1
  funext d
  exact foldlM_map f g l d
theorem mapM_get {α β:Type} {f:α -> Option β}:∀ (l:List α) (r:List β),l.mapM f = some r -> r.length = l.length /\ ∀ (i:Nat) (a:α) (b:β),l[i]? = some a -> r[i]? = some b -> f a = some b
 | [],r,h=>by
  simp only [List.mapM_nil,Option.pure_def,Option.some.injEq] at h
  subst h
  exact ⟨rfl,fun i a b ha=>by simp at ha⟩
 | a :: l,r,h=>by
  rw [List.mapM_cons] at h
  simp only [Option.bind_eq_bind,Option.pure_def] at h
  cases hf:f a with
  | none=>simp [hf] at h
  | some b =>
   cases hr:l.mapM f with
   | none=>simp [hf,hr] at h
   | some rs =>
    simp only [hf,hr,Option.bind_some,Option.some.injEq] at h
    subst h
    obtain ⟨h1,h2⟩:=mapM_get l rs hr
    refine ⟨by simp [h1],fun i x y hx hy=>?_⟩
    cases i with
    | zero=>simp at hx hy;subst hx;subst hy;exact hf
    | succ i=>exact h2 i x y (by simpa using hx) (by simpa using hy)
section ops
variable {st:St} {ρ:Operand -> Value} (H:HR B0 M0 w st.h hd) (hM:∀ g,M0 g -> g < w.heap.size) (hB:B0 <= w.heap.size) (hρ:Sees w (badOf M0 st.h hd) st hd ρ)
include H hρ
theorem ok_build {t:TypeId} {parts:Array (Nat × Operand)} {zs:List Value} {ps:List (Nat × Nat × Operand)} {av:AV} {h':List Blk}
  (hc : cop P ⟨none, .build t parts, 0, "", #[], none⟩ = some (.build zs ps)) (hs : cstep st (.build zs ps) = some (av, h')) :
  GV P B0 M0 w st.h hd (Instr.build t (parts.map fun (i,x)=>(i,ρ x))) av h':=by
 simp only [cstep,Option.map_eq_some_iff,Prod.mk.injEq] at hs
 obtain ⟨cs,hf,rfl,rfl⟩:=hs
 have hf':(ps.map fun p=>(p.1,p.2.1,st.ev p.2.2)).foldlM (fun cs p=>p.2.2.cells?.bind fun pc=>if pc.length = p.2.1 /\ p.1 + pc.length <= cs.length then some (cs.take p.1 ++ pc ++ cs.drop (p.1 + pc.length)) else none) (zs.map fun v=>Cell.c (.val v)) = some cs:=by
  rw [foldlM_map];exact hf
 have e:(parts.map fun (x:Nat × Operand)=>(x.1,ρ x.2)) = (parts.toList.map fun (x:Nat × Operand)=>(x.1,ρ x.2)).toArray:=by apply Array.ext';simp
 simp only [cop] at hc
 split at hc
 ·rename_i fs zs' hu hz
  split at hc
  ·rename_i hall
   simp only [Bool.and_eq_true] at hall
   simp only [Option.bind_eq_some_iff,Option.some.injEq,COp.build.injEq] at hc
   obtain ⟨ps',hm,rfl,rfl⟩:=hc
   obtain ⟨hl,hg⟩:=mapM_get _ _ hm
   obtain ⟨v,hr,ha⟩:=run_build_struct (w:=w) (bad:=badOf M0 st.h hd) (h:=st.h) (hd:=hd) hu hz hall.1 hall.2 (ps:=ps'.map fun p=>(p.1,p.2.1,st.ev p.2.2)) (vs:=parts.toList.map fun x=>(x.1,ρ x.2)) (by simp [hl])
    (fun i p v hp hv=>by
     rw [List.getElem?_map] at hp hv
     cases hq:ps'[i]? with
     | none=>simp [hq] at hp
     | some q =>
      cases hx:parts.toList[i]? with
      | none=>simp [hx] at hv
      | some x =>
       simp [hq] at hp;simp [hx] at hv
       subst hp;subst hv
       have:=hg i x q hx hq
       simp only [Option.bind_eq_some_iff,Option.map_eq_some_iff] at this
       obtain ⟨f,hf1,s,hs1,rfl⟩:=this
       exact ⟨⟨f,hf1,rfl,hs1⟩,hρ _⟩) hf'
   exact GV.quiet H (by rw [e];exact hr) ha
  ·cases hc
 ·rename_i n e' zs' hu hz
  split at hc
  ·rename_i hall
   simp only [Option.map_eq_some_iff,COp.build.injEq] at hc
   obtain ⟨s,hs1,rfl,rfl⟩:=hc
   obtain ⟨v,hr,ha⟩:=run_build_array (w:=w) (bad:=badOf M0 st.h hd) (h:=st.h) (hd:=hd) hu hz hall hs1 (ps:=(parts.toList.map fun p=>(p.1 * s,s,p.2)).map fun p=>(p.1,p.2.1,st.ev p.2.2)) (vs:=parts.toList.map fun x=>(x.1,ρ x.2)) (by simp)
    (fun i p v hp hv=>by
     rw [List.getElem?_map,List.getElem?_map] at hp
     rw [List.getElem?_map] at hv
     cases hx:parts.toList[i]? with
     | none=>simp [hx] at hv
     | some x =>
      simp [hx] at hp hv
      subst hp;subst hv
      exact ⟨⟨rfl,rfl⟩,hρ _⟩) hf'
   exact GV.quiet H (by rw [e];exact hr) ha
  ·cases hc
 ·cases hc
include hM hB
theorem ok_mkrow {t ty:TypeId} {len e:Nat} {parts:Array (Nat × Operand)} {ps:List Operand} {av:AV} {h':List Blk}
  (hc : cop P ⟨none, .buildSlice t len parts, 0, "", #[], none⟩ = some (.mkrow ty e ps)) (hs : cstep st (.mkrow ty e ps) = some (av, h')) :
  GV P B0 M0 w st.h hd (Instr.buildSlice t len (parts.map fun (i,x)=>(i,ρ x))) av h':=by
 simp only [cstep,Option.map_eq_some_iff,Prod.mk.injEq] at hs
 obtain ⟨rows,hm,rfl,rfl⟩:=hs
 obtain ⟨hl,hh⟩:=mapM_cells hρ ps rows hm
 simp only [cop] at hc
 split at hc
 ·rename_i e' hu
  split at hc
  ·rename_i s zs hsz hz
   split at hc
   ·rename_i hcond
    obtain ⟨hpi,hlim,hzl,hs0,hmax⟩:=hcond
    simp only [Option.some.injEq,COp.mkrow.injEq] at hc
    obtain ⟨rfl,rfl,rfl⟩:=hc
    have hlen:rows.length = len:=by
     rw [hl,List.length_map]
     have:=congrArg List.length hpi
     simpa using this
    subst hlen
    refine gv_mkrow H hM hB hu hsz hz hzl hs0 (vs:=(parts.toList.map (·.2)).map ρ) (by simp [hl]) hh (by omega) hmax ?_
    apply List.ext_getElem?
    intro i
    simp only [Array.toList_map,List.getElem?_map,List.zipIdx_map,List.getElem?_zipIdx,Option.map_map]
    have hi:=congrArg (·[i]?) hpi
    simp only [List.getElem?_map] at hi
    cases hx:parts.toList[i]? with
    | none=>simp
    | some x =>
     rw [hx] at hi
     have hlt:i < rows.length:=by
      rw [hl,List.length_map]
      exact (List.getElem?_eq_some_iff.1 hx).1
     rw [List.getElem?_range hlt] at hi
     simp at hi
     simp [hi]
   ·cases hc
  ·cases hc
 ·cases hc
end ops
end Go.Am
namespace Go.Am
open Go.RowKit
variable {P:Program} {w w1 w2 w':World} {M0:Nat -> Prop} {h h1 h2 h':List Blk} {hd hd1 hd2 hd':Nat -> Value} {B0:Nat} {bad:Nat -> Prop}
theorem relOpt {st:St} {ρ:Operand -> Value} (hρ:Sees w bad st hd ρ) (x:Option Operand):rel? w bad st.h hd (x.map st.ev) (x.map ρ):=by
 cases x with
 | none=>trivial
 | some x=>exact hρ x
section ops
variable {st:St} {ρ:Operand -> Value} (H:HR B0 M0 w st.h hd) (hM:∀ g,M0 g -> g < w.heap.size) (hB:B0 <= w.heap.size) (hρ:Sees w (badOf M0 st.h hd) st hd ρ)
include H hρ
theorem ok_slice (hM:∀ g,M0 g -> g < w.heap.size) {t e:TypeId} {s:Nat} (ht:P.underlying t = some (.slice e)) (hsz:szOf P e = some s) {x:Operand} {lo hi mx:Option Operand} {av:AV} {h':List Blk}
  (hs:cstep st (.slice s x lo hi mx) = some (av,h')):GV P B0 M0 w st.h hd (Instr.sliceAt t (ρ x) (lo.map ρ) (hi.map ρ) (mx.map ρ)) av h':=by
 have hat:(Instr.sliceAt t (ρ x) (lo.map ρ) (hi.map ρ) (mx.map ρ)).run P w = (Instr.slice t (ρ x) (lo.map ρ) (hi.map ρ) (mx.map ρ)).run P w:=by
  simp [Instr.sliceAt,run_underlying ht,Result.andThen]
 have hlo:=relOpt hρ lo
 have hhi:=relOpt hρ hi
 have hx:=hρ x
 simp only [cstep] at hs
 split at hs
 ·rename_i e' l hev
  rw [hev] at hx
  rcases closed_slice hx with ⟨g,off,cap,hv,hcr⟩ | ⟨rfl,ad,hv⟩
  rotate_left
  ·split at hs
   ·rename_i hee
    subst hee
    split at hs
    ·simp only [Option.bind_eq_some_iff,Option.map_eq_some_iff,Prod.mk.injEq] at hs
     obtain ⟨b,hb,a,ha,rfl,rfl⟩:=hs
     obtain ⟨hr,h1,h2⟩:=run_bounds2 (P:=P) (w:=w) (isSlice:=true) hlo hhi (Nat.le_refl 0) hb ha
     obtain rfl:b = 0:=by simpa using h1
     obtain rfl:a = 0:=by omega
     refine GV.quiet H (v:=.slice (some ad) 0 0) ?_ (.one _ _ (.c _ _ (.emp _ _)))
     rw [hat,hv]
     simp [Instr.slice,Sem.run_bind,run_underlying ht,Result.andThen,hr,szOf_run hsz,Sem.run_pure]
    ·rename_i m
     simp only [Option.bind_eq_some_iff] at hs
     obtain ⟨mm,hm,b,hb,a,ha,hs⟩:=hs
     split at hs
     ·rename_i hcond
      obtain ⟨km,im,hmv,hm0,hm1,hmm⟩:=bound_some (hρ m) hm
      have:=hcond.2.2.2
      have:=hcond.2.1
      simp only [List.length_nil] at hm1
      omega
     ·cases hs
   ·cases hs
  split at hs
  ·rename_i hee
   subst hee
   split at hs
   ·simp only [Option.bind_eq_some_iff,Option.map_eq_some_iff,Prod.mk.injEq] at hs
    obtain ⟨b,hb,a,ha,rfl,rfl⟩:=hs
    obtain ⟨hr,h1,h2⟩:=run_bounds2 (P:=P) (isSlice:=true) hlo hhi hcr.len.2 hb ha
    refine GV.quiet H (v:=.slice (if cap = a then some ⟨g,off,none⟩ else some ⟨g,off + a * e',none⟩) (b - a) (cap - a)) ?_ (.one _ _ (.c _ _ (hcr.cut h1 h2 (Nat.le_trans h1 hcr.len.2) (Nat.le_refl _))))
    rw [hat,hv]
    simp only [Instr.slice,Sem.run_bind,run_underlying ht,Result.andThen,hr,szOf_run hsz,Sem.run_pure,Option.map_some,addr_add,Option.map_none]
   ·rename_i m
    simp only [Option.bind_eq_some_iff] at hs
    obtain ⟨mm,hm,b,hb,a,ha,hs⟩:=hs
    split at hs
    ·rename_i hcond
     obtain ⟨rfl,rfl,hsome,hpos⟩:=hcond
     simp only [Option.some.injEq,Prod.mk.injEq] at hs
     obtain ⟨rfl,rfl⟩:=hs
     obtain ⟨km,im,hmv,hm0,hm1,rfl⟩:=bound_some (hρ m) hm
     cases hi with
     | none=>cases hsome
     | some hiop =>
      simp only [Option.map_some] at hb hhi
      obtain ⟨kh,ih,hhv,hh0,hh1,hhe⟩:=bound_some hhi hb
      have e1:(im.toNat:Int) = im:=Int.toNat_of_nonneg hm0
      have e2:(ih.toNat:Int) = ih:=Int.toNat_of_nonneg hh0
      have hmh:ih = im:=by omega
      subst hmh
      have hcap:=hcr.len.2
      have hle:ih.toNat <= l.length:=by omega
      have hrun:(Instr.sliceBounds true l.length cap (lo.map ρ) (some (ρ hiop)) (some (ρ m))).run P w = .ok (0,ih.toNat,ih.toNat) w:=by
       have hic:ih <= (cap:Int):=by omega
       have hii:ih <= (ih.toNat:Int):=by omega
       cases lo with
       | none=>simp [Instr.sliceBounds,hmv,hhv,run_sliceBound,hm0,hic,hii,e1,Result.andThen]
       | some lop =>
        obtain ⟨kl,il,hlv,hl0,hl1,hle0⟩:=bound_some (hρ lop) ha
        have h00:il.toNat = 0:=hle0.symm
        have hil:il = 0:=by omega
        subst hil
        simp [Instr.sliceBounds,hmv,hhv,hlv,run_sliceBound,hm0,hic,hii,e1,Result.andThen]
      have hcut:=hcr.cut (a:=0) (b:=ih.toNat) (m:=ih.toNat) hle (Nat.zero_le _) (Nat.le_refl _) (Nat.le_trans hle hcap)
      have haddr:(if ih.toNat = 0 then some (⟨g,off,none⟩:Addr) else some ⟨g,off + 0 * e',none⟩) = some ⟨g,off,none⟩:=by split <;> simp
      rw [haddr,Nat.sub_zero,List.drop_zero] at hcut
      have hlen:(l.take ih.toNat).length = ih.toNat:=by simp;omega
      refine GV.quiet H (v:=.slice (some ⟨g,off,none⟩) ih.toNat ih.toNat) ?_ (.one _ _ ?_)
      ·rw [hat,hv]
       simp only [Instr.slice,Sem.run_bind,run_underlying ht,Result.andThen,Option.map_some,hrun,szOf_run hsz,Sem.run_pure,addr_add,Nat.zero_mul,Nat.add_zero,ite_self,Nat.sub_zero]
      ·have:=VR.slx (w:=w) (bad:=badOf M0 st.h hd) (h:=st.h) (hd:=hd) e' (l.take ih.toNat) g off (by rw [hlen];exact hcut)
       rwa [hlen] at this
    ·cases hs
  ·cases hs
 ·rename_i hev
  rw [hev] at hx
  have hv:=hx.val
  split at hs
  ·rename_i hmx
   simp only [Option.bind_eq_some_iff,Option.map_eq_some_iff,Prod.mk.injEq] at hs
   obtain ⟨b,hb,a,ha,rfl,rfl⟩:=hs
   have hmx':mx = none:=by simpa using hmx
   subst hmx'
   have hb0:b = 0:=by
    cases hi with
    | none=>exact bound_none hb
    | some y=>obtain ⟨k,i,_,_,h1,rfl⟩:=bound_some (hρ y) hb;omega
   subst hb0
   obtain ⟨hr,h1,h2⟩:=run_bounds2 (P:=P) (w:=w) (isSlice:=true) (len:=0) (cap:=0) hlo hhi (Nat.le_refl _) hb ha
   have ha0:a = 0:=by omega
   subst ha0
   refine GV.quiet H (v:=.slice none 0 0) ?_ (avr_val rfl)
   rw [hat,hv]
   simp only [Instr.slice,Sem.run_bind,run_underlying ht,Result.andThen,hr,szOf_run hsz,Sem.run_pure,if_true,Option.map_none]
  ·cases hs
 ·rename_i b ver hev
  rw [hev] at hx
  split at hs
  ·rename_i k hk
   split at hs
   ·rename_i hcond
    obtain ⟨hver,hke,hlive⟩:=hcond
    simp only [Option.map_eq_some_iff,Prod.mk.injEq] at hs
    obtain ⟨m,hb,rfl,rfl⟩:=hs
    have hv:=own_hd hx hk hver
    obtain ⟨hr,xs,ho,hpw⟩:=H.pw hk
    have hblt:=(List.getElem?_eq_some_iff.1 hk).1
    have hcl:m <= k.els.length /\ ∀ cap,k.els.length <= cap -> (Instr.sliceBounds true k.els.length cap none (hi.map ρ) none).run P w = .ok (0,m,cap) w:=by
     refine ⟨?_,fun cap hc=>(run_bounds2 (P:=P) (isSlice:=true) (lo:=none) (vlo:=none) trivial hhi hc hb rfl).1⟩
     exact (run_bounds2 (P:=P) (isSlice:=true) (lo:=none) (vlo:=none) trivial hhi (Nat.le_refl _) hb rfl).2.1
    have hflat:(k.els.take m).flatten = k.els.flatten.take (m * k.e):=flatten_take _ _ hr
    have hrow:∀ (i:Nat) (r:List Cell),(k.els.take m)[i]? = some r -> r.length = k.e:=fun i r hi=>by
     rw [List.getElem?_take] at hi
     split at hi
     ·exact hr i r hi
     ·cases hi
    have fin:∀ v',(Instr.slice t (hd b) none (hi.map ρ) none).run P w = .ok v' w -> w.ownsRow B0 k.ty k.e v' m (xs.take (m * k.e)) -> (∀ g,v'.ownBlock = some g -> (hd b).ownBlock = some g) -> (v' = .slice none 0 0 ↔ hd b = .slice none 0 0) ->
      GV P B0 M0 w st.h hd (Instr.sliceAt t (ρ x) none (hi.map ρ) none) (.one (.own b (k.ver + 1))) (st.h.set b { k with ver:=k.ver + 1,els:=k.els.take m }):=fun v' hrun hown hf hnl=>by
     have key:=H.upd (k':={ k with ver:=k.ver + 1,els:=k.els.take m }) hk hlive (grownBy_refl w _) (v:=v') (xs:=xs.take (m * k.e)) (.inr (Nat.lt_succ_self _)) hrow
      (by simp only [List.length_take,Nat.min_eq_left hcl.1];exact hown) (by
       have:=hpw.take (m * k.e)
       rw [<- hflat] at this
       exact this.2) (fun g hg=>.inl (hf g hg)) hM (by rw [hnl];exact H.nn b k hk)
     refine ⟨v',w,_,_,?_,grownBy_refl w _,fun g e=>⟨b,k,hk,hlive,e⟩,key.1,key.2,?_⟩
     ·have:=hat
      rw [hv] at this ⊢
      simp only [Option.map_none] at this
      rw [this];exact hrun
     ·exact AVR.own_new (k:={ k with ver:=k.ver + 1,els:=k.els.take m }) (by simp [hblt]) (upd_same _ _ _) (ownsRow_one hown)
    rcases ho.2 with ⟨h0,h1⟩ | ⟨g,cap,cur,hh,hBg,hg,hnc,hcm,hcs,htake⟩
    ·have hm0:m = 0:=by omega
     subst hm0
     refine fin (.slice none 0 0) ?_ ?_ (fun g hg=>by simp [Value.ownBlock] at hg) (by rw [h0])
     ·have hb0:=hcl.2 0 (by omega)
      rw [h1] at hb0
      rw [h0]
      simp only [Instr.slice,Sem.run_bind,run_underlying ht,Result.andThen,hb0,szOf_run hsz,Sem.run_pure,if_true]
     ·simp only [Nat.zero_mul,List.take_zero]
      exact World.ownsRow_nil w B0 k.ty k.e
    ·refine fin (.slice (some ⟨g,0,none⟩) m cap) ?_ ?_ (fun g' hg'=>by rw [hh];simpa [Value.ownBlock] using hg') (by rw [hh];simp)
     ·rw [hh]
      simp only [Instr.slice,Sem.run_bind,run_underlying ht,Result.andThen,hcl.2 cap hnc,szOf_run hsz,Sem.run_pure,Option.map_some,addr_add,Nat.zero_mul,Nat.add_zero,ite_self,Nat.sub_zero]
     ·have hml:=hcl.1
      refine ⟨?_,.inr ⟨g,cap,cur,rfl,hBg,hg,by omega,hcm,hcs,?_⟩⟩
      ·rw [List.length_take,ho.1];exact Nat.min_eq_left (Nat.mul_le_mul_right _ hml)
      ·rw [<- htake,List.take_take,Nat.min_eq_left (Nat.mul_le_mul_right _ hml)]
   ·cases hs
  ·cases hs
 ·cases hs
theorem ok_sslice {t:TypeId} (ht:P.underlying t = some .string) {x:Operand} {lo hi:Option Operand} {av:AV} {h':List Blk}
  (hs:cstep st (.sslice x lo hi) = some (av,h')):GV P B0 M0 w st.h hd (Instr.sliceAt t (ρ x) (lo.map ρ) (hi.map ρ) none) av h':=by
 simp only [cstep,Option.bind_eq_some_iff,Option.map_eq_some_iff,Prod.mk.injEq] at hs
 obtain ⟨s,hsx,b,hb,a,ha,rfl,rfl⟩:=hs
 have hv:=(hρ x).str hsx
 obtain ⟨hr,h1,h2⟩:=run_bounds2 (P:=P) (isSlice:=false) (relOpt hρ lo) (relOpt hρ hi) (Nat.le_refl _) hb ha
 refine GV.quiet H (v:=.string ⟨((s.take b).drop a).toArray⟩) ?_ avr_str
 rw [hv]
 simp only [Instr.sliceAt,Instr.slice,Sem.run_bind,run_underlying ht,Result.andThen,Option.isSome_none,Bool.false_eq_true,if_false,str_size,hr,Sem.run_pure,str_extract]
theorem ok_faddr {s:TypeId} {fs:Array Field} {f:Field} {i n:Nat} (ht:P.underlying s = some (.struct fs)) (hf:fs[i]? = some f) (hn:szOf P f.type = some n) (hn0:n ≠ 0) {x:Operand} {av:AV} {h':List Blk}
  (hs:cstep st (.faddr f.offset x) = some (av,h')):GV P B0 M0 w st.h hd (Instr.fieldAt s (ρ x) i) av h':=by
 have hrun:∀ g o,ρ x = .pointer (some ⟨g,o,none⟩) -> (Instr.fieldAt s (ρ x) i).run P w = .ok (.pointer (some ⟨g,o + f.offset,none⟩)) w:=fun g o he=>by
  rw [he]
  simp only [Instr.fieldAt,Instr.sureAddr,fieldPlace,Sem.run_bind,run_underlying ht,Result.andThen,hf,Sem.run_pure,szOf_run hn,hn0,if_false,addr_add]
 have hx:=hρ x
 simp only [cstep] at hs
 split at hs
 ·rename_i b ver i' o hev
  rw [hev] at hx
  cases hk:st.h[b]? with
  | none=>simp [hk] at hs
  | some k =>
   simp only [hk] at hs
   split at hs
   ·rename_i hver
    simp only [Option.some.injEq,Prod.mk.injEq] at hs
    obtain ⟨rfl,rfl⟩:=hs
    rcases ptr_val hx with ⟨blk,g,n',cap,hb,hh,hv,hbv⟩ | ⟨blk,hb,hlt,_⟩
    ·refine GV.quiet H (hrun _ _ hv) (.one _ _ ?_)
     rw [hbv,Nat.add_assoc]
     exact .ptr b i' (o + f.offset) blk g n' cap hb hh
    ·rw [hk] at hb;cases hb;omega
   ·cases hs
 ·rename_i l hev
  rw [hev] at hx
  simp only [Option.some.injEq,Prod.mk.injEq] at hs
  obtain ⟨rfl,rfl⟩:=hs
  obtain ⟨g,off,hv,ha⟩:=iptr_drop (n:=f.offset) hx
  exact GV.quiet H (hrun _ _ hv) ha
 ·cases hs
theorem ok_nilchk {x:Operand} {av:AV} {h':List Blk} (hs:cstep st (.faddr 0 x) = some (av,h')):(∃ g o,ρ x = .pointer (some ⟨g,o,none⟩)) /\ GV P B0 M0 w st.h hd (pure (ρ x)) av h':=by
 have hx:=hρ x
 simp only [cstep] at hs
 split at hs
 ·rename_i b ver i' o hev
  rw [hev] at hx
  cases hk:st.h[b]? with
  | none=>simp [hk] at hs
  | some k =>
   simp only [hk] at hs
   split at hs
   ·rename_i hver
    simp only [Option.some.injEq,Prod.mk.injEq] at hs
    obtain ⟨rfl,rfl⟩:=hs
    rcases ptr_val hx with ⟨blk,g,n',cap,hb,hh,hv,hbv⟩ | ⟨blk,hb,hlt,_⟩
    ·refine ⟨⟨g,_,hv⟩,GV.quiet H (Sem.run_pure _ _ _) (.one _ _ ?_)⟩
     rw [hbv,hv,Nat.add_zero]
     exact .ptr b i' o blk g n' cap hb hh
    ·rw [hk] at hb;cases hb;omega
   ·cases hs
 ·rename_i l hev
  rw [hev] at hx
  simp only [Option.some.injEq,Prod.mk.injEq] at hs
  obtain ⟨rfl,rfl⟩:=hs
  obtain ⟨g,off,hv,ha⟩:=iptr_drop (n:=0) hx
  rw [Nat.add_zero] at ha
  exact ⟨⟨g,off,hv⟩,GV.quiet H (by rw [hv];exact Sem.run_pure _ _ _) ha⟩
 ·cases hs
theorem ok_field {s:TypeId} {fs:Array Field} {f:Field} {i n:Nat} {ag:Bool} (ht:P.underlying s = some (.struct fs)) (hf:fs[i]? = some f) (hn:szOf P f.type = some n) (hag:aggT P f.type = some ag) (h1:ag = true \/ n = 1)
  {x:Operand} {av:AV} {h':List Blk} (hs:cstep st (.field f.offset n ag x) = some (av,h')):GV P B0 M0 w st.h hd (Instr.field s (ρ x) i) av h':=by
 have hx:=hρ x
 simp only [cstep] at hs
 split at hs
 ·rename_i cs hev
  rw [hev] at hx
  split at hs
  ·rename_i hle
   simp only [Option.map_eq_some_iff,Prod.mk.injEq] at hs
   obtain ⟨v,hm,rfl,rfl⟩:=hs
   cases hxv:ρ x with
   | agg vs =>
    rw [hxv] at hx
    have hpw:=hx.pw (cs:=cs) rfl
    simp only [Value.cells] at hpw
    have hpw':=(hpw.drop f.offset).take n
    have hl:vs.size = cs.length:=by have:=hpw.1;simp at this;omega
    rcases mkAV_of hm hpw'.1 hpw'.2 with ⟨rfl,ha⟩ | ⟨rfl,u,hu,ha⟩
    ·refine GV.quiet H ?_ ha
     simp only [Instr.field,part,asAgg,Sem.run_bind,run_underlying ht,Result.andThen,hf,Sem.run_pure,aggT_run hag,if_true,szOf_run hn]
     congr 2
     apply Array.ext'
     simp [List.drop_take]
    ·have hn1:n = 1:=by rcases h1 with h | h;· cases h
                        ·exact h
     subst hn1
     refine GV.quiet H ?_ ha
     have hget:vs[f.offset]? = some u:=by
      have:=congrArg (·[0]?) hu
      simp at this
      simpa using this
     simp only [Instr.field,part,asAgg,Sem.run_bind,run_underlying ht,Result.andThen,hf,Sem.run_pure,aggT_run hag,Bool.false_eq_true,if_false,hget]
   | _=>rw [hxv] at hx;cases hx
  ·cases hs
 ·cases hs
theorem ok_iaddr {t:TypeId} {e:TypeId} {s:Nat} {arr:Option Nat} (ht:(arr = none /\ P.underlying t = some (.slice e)) \/ (∃ n,arr = some n /\ P.underlying t = some (.array n e))) (hsz:szOf P e = some s) {x i:Operand} {av:AV} {h':List Blk}
  (hs:cstep st (.iaddr s arr x i) = some (av,h')):GV P B0 M0 w st.h hd (Instr.indexAt t (ρ x) (ρ i)) av h':=by
 have hx:=hρ x
 simp only [cstep] at hs
 cases hi:(st.ev i).int? with
 | none=>simp [hi] at hs
 | some p =>
  obtain ⟨ki,j⟩:=p
  have hiv:ρ i = .int ki j:=(hρ i).int hi
  simp only [hi] at hs
  have slice:∀ g off n cap,arr = none -> ρ x = .slice (some ⟨g,off,none⟩) n cap -> 0 <= j -> j < n -> (Instr.indexAt t (ρ x) (ρ i)).run P w = .ok (.pointer (some ⟨g,off + j.toNat * s,none⟩)) w:=fun g off n cap ha hv h0 h1=>by
   rcases ht with ⟨_,ht⟩ | ⟨n,hn,_⟩
   ·rw [hv,hiv]
    have:0 <= j /\ j < (n:Int):=⟨h0,h1⟩
    simp only [Instr.indexAt,asIntOf,Sem.run_bind,run_underlying ht,Result.andThen,Sem.run_pure,Sem.run_ite,this,and_self,if_true,szOf_run hsz,addr_add]
   ·rw [ha] at hn;cases hn
  have array:∀ g off n,arr = some n -> ρ x = .pointer (some ⟨g,off,none⟩) -> 0 <= j -> j < n -> (Instr.indexAt t (ρ x) (ρ i)).run P w = .ok (.pointer (some ⟨g,off + j.toNat * s,none⟩)) w:=fun g off n ha hv h0 h1=>by
   rcases ht with ⟨hn,_⟩ | ⟨n',hn,ht⟩
   ·rw [ha] at hn;cases hn
   ·rw [ha] at hn;cases hn
    rw [hv,hiv]
    have:0 <= j /\ j < (n:Int):=⟨h0,h1⟩
    simp only [Instr.indexAt,Instr.sureAddr,asIntOf,Sem.run_bind,run_underlying ht,Result.andThen,Sem.run_pure,Sem.run_ite,this,and_self,if_true,szOf_run hsz,addr_add]
  split at hs
  ·rename_i b ver hev
   rw [hev] at hx
   cases hk:st.h[b]? with
   | none=>simp [hk] at hs
   | some k =>
    simp only [hk] at hs
    split at hs
    ·rename_i hc
     obtain ⟨hver,hke,h0,h1⟩:=hc
     simp only [Option.some.injEq,Prod.mk.injEq] at hs
     obtain ⟨rfl,rfl⟩:=hs
     have hv:=own_hd hx hk hver
     obtain ⟨g,cap,hh⟩:=H.hasRow hk (i:=j.toNat) (List.getElem?_eq_getElem (by omega))
     refine GV.quiet H (slice g 0 k.els.length cap rfl (hv.trans hh) h0 h1) (.one _ _ ?_)
     rw [hver,Nat.zero_add,<- hke]
     exact .ptr b j.toNat 0 k g _ cap hk hh
    ·cases hs
  ·rename_i e' l hev
   rw [hev] at hx
   split at hs
   ·rename_i hc
    obtain ⟨rfl,h0⟩:=hc
    cases hl:l[j.toNat]? with
    | none=>simp [hl] at hs
    | some r =>
     simp only [hl,Option.some.injEq,Prod.mk.injEq] at hs
     obtain ⟨rfl,rfl⟩:=hs
     rcases closed_slice hx with ⟨g,off,cap,hv,hcr⟩ | ⟨rfl,_⟩
     rotate_left
     ·simp at hl
     have hlt:=(List.getElem?_eq_some_iff.1 hl).1
     exact GV.quiet H (slice g off l.length cap rfl hv h0 (by omega)) (sl_elem hcr hl)
   ·cases hs
  ·rename_i e' l hev
   rw [hev] at hx
   split at hs
   ·rename_i hc
    obtain ⟨rfl,h0⟩:=hc
    cases hl:l[j.toNat]? with
    | none=>simp [hl] at hs
    | some r =>
     simp only [hl,Option.some.injEq,Prod.mk.injEq] at hs
     obtain ⟨rfl,rfl⟩:=hs
     obtain ⟨g,off,hv,hcr⟩:=slx_slice hx
     have hlt:=(List.getElem?_eq_some_iff.1 hl).1
     exact GV.quiet H (slice g off l.length l.length rfl hv h0 (by omega)) (sl_elem hcr hl)
   ·cases hs
  ·rename_i n b ver i' off hev
   rw [hev] at hx
   cases hk:st.h[b]? with
   | none=>simp [hk] at hs
   | some k =>
    simp only [hk] at hs
    split at hs
    ·rename_i hc
     obtain ⟨hver,_,h0,h1⟩:=hc
     simp only [Option.some.injEq,Prod.mk.injEq] at hs
     obtain ⟨rfl,rfl⟩:=hs
     rcases ptr_val hx with ⟨blk,g,n',cap,hb,hh,hv,hbv⟩ | ⟨blk,hb,hlt,_⟩
     ·refine GV.quiet H (array g _ n rfl hv h0 h1) (.one _ _ ?_)
      rw [hbv,Nat.add_assoc]
      exact .ptr b i' _ blk g n' cap hb hh
     ·rw [hk] at hb;cases hb;omega
    ·cases hs
  ·rename_i n l hev
   rw [hev] at hx
   split at hs
   ·rename_i hc
    simp only [Option.some.injEq,Prod.mk.injEq] at hs
    obtain ⟨rfl,rfl⟩:=hs
    obtain ⟨g,off,hv,ha⟩:=iptr_drop (n:=j.toNat * s) hx
    exact GV.quiet H (array g off n rfl hv hc.1 hc.2) ha
   ·cases hs
  ·cases hs
end ops
end Go.Am
namespace Go.Am
open Go.RowKit
variable {P:Program} {w:World} {M0:Nat -> Prop} {hd:Nat -> Value} {B0:Nat}
theorem cstep_ok {st:St} {ρ:Operand -> Value} (H:HR B0 M0 w st.h hd) (hM:∀ g,M0 g -> g < w.heap.size) (hB:B0 <= w.heap.size) (hρ:Sees w (badOf M0 st.h hd) st hd ρ)
  {o:Oper} {c:COp} {av:AV} {h':List Blk} (hc:cop P o = some c) (hs:cstep st c = some (av,h')):GN P B0 M0 w st.h hd (execOp ρ o) o.dst av h':=by
 obtain ⟨dst,op,type,pos,after,guard⟩:=o
 cases op with
 | move x | assign x =>
  simp only [cop,Option.some.injEq] at hc
  subst hc
  simp only [cstep,Option.some.injEq,Prod.mk.injEq] at hs
  obtain ⟨rfl,rfl⟩:=hs
  exact GN.quiet H (by simp [execOp]) (hρ x)
 | pick c a b =>
  simp only [cop,Option.some.injEq] at hc
  subst hc
  simp only [cstep,Option.map_eq_some_iff,Prod.mk.injEq] at hs
  obtain ⟨t,ht,rfl,rfl⟩:=hs
  have hcv:=(hρ c).bool ht
  refine GN.quiet H (v:=if t then ρ a else ρ b) ?_ ?_
  ·simp [execOp,hcv,asBool,Result.andThen]
  ·cases t
   ·exact hρ b
   ·exact hρ a
 | alloc t =>
  simp only [cop,Option.bind_eq_some_iff] at hc
  obtain ⟨zs,hz,hc⟩:=hc
  split at hc
  ·rename_i h1
   simp only [Option.some.injEq] at hc
   subst hc
   simp only [cstep,Option.some.injEq,Prod.mk.injEq] at hs
   obtain ⟨rfl,rfl⟩:=hs
   exact (gv_alloc H hM hB hz h1).next
  ·cases hc
 | box t x =>
  simp only [cop,Option.some.injEq] at hc
  subst hc
  simp only [cstep,Option.map_eq_some_iff,Prod.mk.injEq] at hs
  obtain ⟨cs,hcs,rfl,rfl⟩:=hs
  exact (gv_box H hM hB (hρ x) hcs).next
 | build t parts =>
  have hc':=hc
  simp only [cop] at hc
  split at hc
  ·split at hc
   ·simp only [Option.bind_eq_some_iff,Option.some.injEq] at hc
    obtain ⟨ps',hm,rfl⟩:=hc
    exact (ok_build H hρ (t:=t) (parts:=parts) (by simpa only [cop] using hc') hs).next
   ·cases hc
  ·split at hc
   ·simp only [Option.map_eq_some_iff] at hc
    obtain ⟨s,hs1,rfl⟩:=hc
    exact (ok_build H hρ (t:=t) (parts:=parts) (by simpa only [cop] using hc') hs).next
   ·cases hc
  ·cases hc
 | buildSlice t len parts =>
  have hc':=hc
  simp only [cop] at hc
  split at hc
  ·split at hc
   ·split at hc
    ·simp only [Option.some.injEq] at hc
     subst hc
     exact (ok_mkrow H hM hB hρ (t:=t) (len:=len) (parts:=parts) (by simpa only [cop] using hc') hs).next
    ·cases hc
   ·cases hc
  ·cases hc
 | load t x =>
  simp only [cop] at hc
  split at hc
  ·rename_i n ag hn hag
   split at hc
   ·rename_i h1
    simp only [Option.some.injEq] at hc
    subst hc
    simp only [cstep,Option.bind_eq_some_iff,Option.map_eq_some_iff,Prod.mk.injEq] at hs
    obtain ⟨cs,hr,v,hm,rfl,rfl⟩:=hs
    exact (gv_load H hn hag (by simpa using h1) (hρ x) hr hm).next
   ·cases hc
  ·cases hc
 | store t x y =>
  simp only [cop] at hc
  split at hc
  ·rename_i hdn
   simp only [Option.map_eq_some_iff] at hc
   obtain ⟨n,hn,rfl⟩:=hc
   simp only [cstep,Option.bind_eq_some_iff] at hs
   obtain ⟨cs,hcs,hs⟩:=hs
   split at hs
   ·rename_i hl
    simp only [Option.map_eq_some_iff,Prod.mk.injEq] at hs
    obtain ⟨h2,hp,rfl,rfl⟩:=hs
    exact (gu_store H hM hn (hρ x) (hρ y) hcs hl hp).next (by simpa using hdn)
   ·cases hs
  ·cases hc
 | binOp op t x y yt =>
  have bin:∀ {av:AV} {h':List Blk},cstep st (.bin op x y) = some (av,h') -> GN P B0 M0 w st.h hd (execOp ρ ⟨dst,.binOp op t x y yt,type,pos,after,guard⟩) dst av h':=fun {av h'} hs=>by
   simp only [cstep,Option.map_eq_some_iff,Prod.mk.injEq] at hs
   obtain ⟨v,hb,rfl,rfl⟩:=hs
   obtain ⟨r,hr,ha⟩:=run_binAV (P:=P) (t:=t) (x:=x) (y:=y) (hρ x) (hρ y) hb
   exact (GV.quiet H hr ha).next
  have eq:∀ (neg:Bool),op = (if neg then .neq else .eql) -> copEq P neg t x y = some c -> GN P B0 M0 w st.h hd (execOp ρ ⟨dst,.binOp op t x y yt,type,pos,after,guard⟩) dst av h':=fun neg hop hce=>by
   unfold copEq at hce
   split at hce
   ·rename_i hu
    simp only [Option.some.injEq] at hce
    subst hce
    simp only [cstep] at hs
    split at hs
    ·rename_i p q hp hq
     simp only [Option.some.injEq,Prod.mk.injEq] at hs
     obtain ⟨rfl,rfl⟩:=hs
     have h1:=(hρ x).bool hp
     have h2:=(hρ y).bool hq
     refine (GV.quiet H (s:=do eqGuard op t x y (ρ x) (ρ y);binOp op t (ρ x) (ρ y)) ?_ (avr_val rfl)).next
     rw [h1,h2,hop]
     exact run_beq hu neg
    ·cases hs
   ·simp only [Option.some.injEq] at hce
    subst hce
    rw [<- hop] at hs
    exact bin hs
   ·simp only [Option.some.injEq] at hce
    subst hce
    rw [<- hop] at hs
    exact bin hs
   ·rename_i e hu
    split at hce
    ·rename_i hnil
     simp only [Option.some.injEq] at hce
     subst hce
     simp only [cstep,Option.map_eq_some_iff,Prod.mk.injEq] at hs
     obtain ⟨b,hb,rfl,rfl⟩:=hs
     have hy:ρ y = .slice none 0 0:=by
      unfold isNilSlice at hnil
      split at hnil
      ·have:=hρ (.const (.slice none 0 0))
       exact this.val
      ·cases hnil
     rcases isNilAV_val H (hρ x) hb with ⟨_,p,l,c,hv,rfl⟩ | ⟨h0,_⟩
     ·refine (GV.quiet H (s:=do eqGuard op t x y (ρ x) (ρ y);binOp op t (ρ x) (ρ y)) ?_ (avr_val rfl)).next
      rw [hv,hy,hop]
      exact run_isnil_slice hu p l c neg
     ·cases h0
    ·cases hce
   ·rename_i ps rs vr hu
    split at hce
    ·rename_i hnil
     simp only [Option.some.injEq] at hce
     subst hce
     simp only [cstep,Option.map_eq_some_iff,Prod.mk.injEq] at hs
     obtain ⟨b,hb,rfl,rfl⟩:=hs
     have hy:ρ y = .nilFunc:=by
      unfold isNilFunc at hnil
      split at hnil
      ·have:=hρ (.const .nilFunc)
       exact this.val
      ·cases hnil
     rcases isNilAV_val H (hρ x) hb with ⟨h0,_⟩ | ⟨_,hv⟩
     ·cases h0
     ·refine (GV.quiet H (s:=do eqGuard op t x y (ρ x) (ρ y);binOp op t (ρ x) (ρ y)) ?_ (avr_val rfl)).next
      rw [hy,hop]
      exact run_isnil_func hu hv neg
    ·cases hce
   ·rename_i fs hu
    split at hce
    ·rename_i hall
     simp only [Bool.and_eq_true,Bool.not_eq_true'] at hall
     simp only [Option.some.injEq] at hce
     subst hce
     simp only [cstep] at hs
     split at hs
     ·rename_i a b hxa hyb
      simp only [Option.bind_eq_some_iff] at hs
      obtain ⟨s,hs1,r,hr1,hs⟩:=hs
      split at hs
      ·rename_i hlen
       simp only [Option.some.injEq,Prod.mk.injEq] at hs
       obtain ⟨rfl,rfl⟩:=hs
       have h1:=hρ x
       have h2:=hρ y
       rw [hxa,strCells_get a s hs1] at h1
       rw [hyb,strCells_get b r hr1] at h2
       refine (GV.quiet H (s:=do eqGuard op t x y (ρ x) (ρ y);binOp op t (ρ x) (ρ y)) ?_ (avr_val rfl)).next
       rw [h1.strs,h2.strs,hop]
       exact run_aggeq hu hall.1.1 hall.1.2 hall.2 s r hlen.1 hlen.2 neg
      ·cases hs
     ·cases hs
    ·cases hce
   ·cases hce
  cases op <;> simp only [cop,Option.some.injEq] at hc
  case eql=>exact eq false rfl hc
  case neq=>exact eq true rfl hc
  all_goals (subst hc;exact bin hs)
 | unOp op t x =>
  simp only [cop,Option.some.injEq] at hc
  subst hc
  have hx:=hρ x
  simp only [cstep] at hs
  split at hs
  ·rename_i b hev
   rw [hev] at hx
   simp only [Option.some.injEq,Prod.mk.injEq] at hs
   obtain ⟨rfl,rfl⟩:=hs
   exact GN.quiet H (v:=.bool (!b)) (by simp [execOp,hx.val,Op.unary,Result.andThen]) (avr_val rfl)
  ·rename_i k n hev
   rw [hev] at hx
   simp only [Option.some.injEq,Prod.mk.injEq] at hs
   obtain ⟨rfl,rfl⟩:=hs
   exact GN.quiet H (v:=.int k (k.wrap (0 - n))) (by simp [execOp,hx.val,Op.unary,Op.intArith,Result.andThen]) (avr_val rfl)
  ·cases hs
 | convert s d x =>
  simp only [cop] at hc
  split at hc
  ·rename_i k1 k2 hu1 hu2
   simp only [Option.some.injEq] at hc
   subst hc
   simp only [cstep,Option.map_eq_some_iff,Prod.mk.injEq] at hs
   obtain ⟨n,hn,rfl,rfl⟩:=hs
   have hv:=(hρ x).int hn
   exact GN.quiet H (v:=.int k2 (k2.wrap n.2)) (by simp [execOp,convert,run_underlying hu1,run_underlying hu2,hv,Conv.intToInt,Result.andThen]) (avr_val rfl)
  ·rename_i e hu1 hu2
   split at hc
   ·rename_i hu3
    simp only [Option.some.injEq] at hc
    subst hc
    simp only [cstep,Option.bind_eq_some_iff,Option.map_eq_some_iff,Prod.mk.injEq] at hs
    obtain ⟨es,hes,bs,hbs,rfl,rfl⟩:=hs
    obtain ⟨hrow,hcase⟩:=elems_lies H (hρ x) hes
    refine GN.quiet H (v:=.string ⟨bs.toArray⟩) ?_ avr_str
    have hrun:(Conv.bytesToString (ρ x)).run P w = .ok (.string ⟨bs.toArray⟩) w:=by
     rcases hcase with ⟨h0,rfl⟩ | ⟨g,off,cap,hv,hcap,hl⟩ | ⟨rfl,ad,hv⟩
     ·simp only [byteCells,Option.some.injEq] at hbs
      subst hbs
      rw [h0];rfl
     rotate_left
     ·have hload:=run_loadCells_list (P:=P) w ad [] (fun j v hj=>by simp at hj)
      simp only [byteCells,Option.some.injEq] at hbs
      subst hbs
      rw [hv,run_bytesToString w ad 0 0 [] hload]
      rfl
     ·obtain ⟨news,hpw,hcells⟩:=Lies.values _ _ hl
      obtain ⟨ns,h1,h2⟩:=bytes_run hbs hpw
      have hlen:news.length = es.length:=by rw [<- hpw.1,flat_len _ hrow,Nat.mul_one]
      have hload:=run_loadCells_list (P:=P) w ⟨g,off,none⟩ news (fun j v hj=>by rw [addr_add];exact hcells j v hj)
      rw [hlen,h1] at hload
      rw [hv,run_bytesToString w _ _ _ ns hload]
      have:=foldl_push ns []
      simp only [List.nil_append] at this
      rw [h2,<- this]
      rfl
    have hconv:(convert s d (ρ x)).run P w = (Conv.bytesToString (ρ x)).run P w:=by
     rcases hcase with ⟨h0,rfl⟩ | ⟨g,off,cap,hv,hcap,hl⟩ | ⟨rfl,ad,hv⟩
     ·rw [h0];exact run_convert_bytes_string w s d e _ _ _ hu1 hu3 hu2
     ·rw [hv];exact run_convert_bytes_string w s d e _ _ _ hu1 hu3 hu2
     ·rw [hv];exact run_convert_bytes_string w s d e _ _ _ hu1 hu3 hu2
    simp [execOp,hconv,hrun,Result.andThen]
   ·cases hc
  ·cases hc
 | makeFunc fn first caps =>
  cases fn with
  | func f =>
   simp only [cop] at hc
   split at hc
   ·rename_i hfirst
    simp only [Option.some.injEq] at hc
    subst hc
    simp only [cstep,Option.map_eq_some_iff,Prod.mk.injEq] at hs
    obtain ⟨cs,hm,rfl,rfl⟩:=hs
    obtain ⟨hl,hh⟩:=mapM_ones hρ caps.toList cs hm
    have hf0:first = #[]:=by simpa using hfirst
    subst hf0
    refine GN.quiet H (v:=.func (.func f) #[] (caps.toList.map ρ).toArray) ?_ (.one _ _ (.fn f cs (caps.toList.map ρ) (by simp [hl]) hh))
    simp [execOp,Instr.makeFunc,Result.andThen]
    apply Array.ext';simp
   ·split at hc
    ·rename_i x hf1 hc1
     simp only [Option.some.injEq] at hc
     subst hc
     simp only [cstep] at hs
     split at hs
     ·rename_i c hev
      simp only [Option.some.injEq,Prod.mk.injEq] at hs
      obtain ⟨rfl,rfl⟩:=hs
      have hf2:first = #[x]:=by apply Array.ext';simpa using hf1
      have hc2:caps = #[]:=by apply Array.ext';simpa using hc1
      subst hf2 hc2
      have hx:=hρ x
      rw [hev] at hx
      cases hx with
      | one _ _ hx =>
       refine GN.quiet H (v:=.func (.func f) #[ρ x] #[]) ?_ (.one _ _ (.mfn f c _ hx))
       simp [execOp,Instr.makeFunc,Result.andThen]
     ·cases hs
    ·cases hc
  | _=>simp [cop] at hc
 | makeSlice t l c =>
  simp only [cop] at hc
  split at hc
  ·rename_i e hu
   split at hc
   ·rename_i i hi
    split at hc
    ·rename_i z hz
     split at hc
     ·rename_i hcond
      simp only [Option.some.injEq] at hc
      subst hc
      simp only [cstep] at hs
      split at hs
      ·rename_i k1 n k2 m hl hm
       split at hs
       ·rename_i hnm
        obtain ⟨rfl,h0,hb,h63⟩:=hnm
        simp only [Option.some.injEq,Prod.mk.injEq] at hs
        obtain ⟨rfl,rfl⟩:=hs
        have h1:ρ l = .int k1 n:=(hρ l).int hl
        have h2:ρ c = .int k2 n:=(hρ c).int hm
        have:=(gv_make H hM hB hu hi hz hcond.1 hcond.2.1 hcond.2.2 (kl:=k1) (kc:=k2) h0 hb h63).next (dst:=dst)
        rw [<- h1,<- h2] at this
        exact this
       ·cases hs
      ·cases hs
     ·cases hc
    ·cases hc
   ·cases hc
  ·cases hc
 | slice t x lo hi mx =>
  simp only [cop] at hc
  split at hc
  ·rename_i e hu
   simp only [Option.map_eq_some_iff] at hc
   obtain ⟨s,hsz,rfl⟩:=hc
   exact (ok_slice H hρ hM hu hsz hs).next
  ·rename_i hu
   split at hc
   ·rename_i hmx
    simp only [Option.some.injEq] at hc
    subst hc
    have:mx = none:=by simpa using hmx
    subst this
    exact (ok_sslice H hρ hu hs).next
   ·cases hc
  ·cases hc
 | fieldAddr s x f =>
  simp only [cop] at hc
  split at hc
  ·rename_i fs hu
   simp only [Option.bind_eq_some_iff] at hc
   obtain ⟨fd,hf,n,hn,hc⟩:=hc
   split at hc
   ·cases hc
   ·rename_i hn0
    simp only [Option.some.injEq] at hc
    subst hc
    exact (ok_faddr H hρ hu hf hn hn0 hs).next
  ·cases hc
 | nilCheck x =>
  simp only [cop,Option.some.injEq] at hc
  subst hc
  obtain ⟨⟨g,o,hv⟩,hg⟩:=ok_nilchk (P:=P) H hρ hs
  have e:execOp ρ { dst:=dst,op:=Op.nilCheck x,type:=type,pos:=pos,after:=after,guard:=guard } = (do pure (Next.value (<- pure (ρ x)))):=by
   unfold execOp
   simp only [hv]
   rfl
  rw [e]
  exact hg.next
 | field s x f =>
  simp only [cop] at hc
  split at hc
  ·rename_i fs hu
   simp only [Option.bind_eq_some_iff] at hc
   obtain ⟨fd,hf,hc⟩:=hc
   split at hc
   ·rename_i n ag hn hag
    split at hc
    ·rename_i h1
     simp only [Option.some.injEq] at hc
     subst hc
     exact (ok_field H hρ hu hf hn hag (by simpa using h1) hs).next
    ·cases hc
   ·cases hc
  ·cases hc
 | indexAddr t x i =>
  simp only [cop] at hc
  split at hc
  ·rename_i e hu
   simp only [Option.map_eq_some_iff] at hc
   obtain ⟨s,hsz,rfl⟩:=hc
   exact (ok_iaddr H hρ (.inl ⟨rfl,hu⟩) hsz hs).next
  ·rename_i n e hu
   simp only [Option.map_eq_some_iff] at hc
   obtain ⟨s,hsz,rfl⟩:=hc
   exact (ok_iaddr H hρ (.inr ⟨n,rfl,hu⟩) hsz hs).next
  ·cases hc
 | index t x i =>
  simp only [cop] at hc
  split at hc
  ·rename_i hu
   simp only [Option.some.injEq] at hc
   subst hc
   simp only [cstep] at hs
   split at hs
   ·rename_i s k j hsx hj
    split at hs
    ·rename_i h0
     simp only [Option.map_eq_some_iff,Prod.mk.injEq] at hs
     obtain ⟨b,hb,rfl,rfl⟩:=hs
     have h1:=(hρ x).str hsx
     have h2:ρ i = .int k j:=(hρ i).int hj
     refine GN.quiet H (v:=.int .u8 b.toNat) ?_ (avr_val rfl)
     have hg:(⟨s.toArray⟩:ByteArray)[j.toNat]? = some b:=by rw [str_get];exact hb
     simp only [execOp,h1,h2,Instr.index,asIntOf,Sem.run_bind,Sem.run_pure,run_underlying hu,Result.andThen,h0,if_true,hg]
    ·cases hs
   ·cases hs
  ·cases hc
 | extract x i =>
  simp only [cop,Option.some.injEq] at hc
  subst hc
  have hx:=hρ x
  simp only [cstep] at hs
  split at hs
  ·rename_i l hev
   rw [hev] at hx
   simp only [Option.map_eq_some_iff,Prod.mk.injEq] at hs
   obtain ⟨v,hv,rfl,rfl⟩:=hs
   generalize hxv:ρ x = u at hx
   cases hx with
   | tup _ vs hl hh =>
    have hlt:=(List.getElem?_eq_some_iff.1 hv).1
    refine GN.quiet H (v:=vs[i]'(by omega)) ?_ (hh i v _ hv (List.getElem?_eq_getElem _))
    simp [execOp,hxv,Instr.extract,show i < vs.length by omega,Result.andThen]
  ·cases hs
 | call c =>
  obtain ⟨callee,args,argTypes⟩:=c
  cases callee with
  | value f =>
   simp only [cop,Option.some.injEq] at hc
   subst hc
   simp [cstep] at hs
  | invoke r m=>simp [cop] at hc
  | builtin b =>
   cases b
   case len =>
    simp only [cop] at hc
    split at hc
    ·rename_i x t ha ht
     have ea:args = #[x]:=by apply Array.ext';simpa using ha
     have et:argTypes = #[t]:=by apply Array.ext';simpa using ht
     subst ea;subst et
     split at hc
     ·rename_i e hu
      simp only [Option.some.injEq] at hc
      subst hc
      simp only [cstep,Option.map_eq_some_iff,Prod.mk.injEq] at hs
      obtain ⟨n,hn,rfl,rfl⟩:=hs
      rcases lenAV_ok H (hρ x) hn with ⟨_,a,cp,hv⟩ | ⟨h0,_⟩
      ·exact GN.quiet H (v:=goInt n) (by simp [execOp,resolve,invoke,builtin,Builtin.len_,run_underlying hu,hv,Result.andThen]) (avr_val rfl)
      ·cases h0
     ·rename_i hu
      simp only [Option.some.injEq] at hc
      subst hc
      simp only [cstep,Option.map_eq_some_iff,Prod.mk.injEq] at hs
      obtain ⟨n,hn,rfl,rfl⟩:=hs
      rcases lenAV_ok H (hρ x) hn with ⟨h0,_⟩ | ⟨_,s,hv,hsz⟩
      ·cases h0
      ·exact GN.quiet H (v:=goInt n) (by simp [execOp,resolve,invoke,builtin,Builtin.len_,run_underlying hu,hv,hsz,Result.andThen]) (avr_val rfl)
     ·cases hc
    ·cases hc
   case append =>
    simp only [cop] at hc
    split at hc
    ·rename_i x y t u ha ht
     have ea:args = #[x,y]:=by apply Array.ext';simpa using ha
     have et:argTypes = #[t,u]:=by apply Array.ext';simpa using ht
     subst ea;subst et
     split at hc
     ·rename_i e e' hu hu'
      split at hc
      ·rename_i i hi
       split at hc
       ·rename_i z hz
        split at hc
        ·rename_i hcond
         simp only [Option.some.injEq] at hc
         subst hc
         have hexec:execOp ρ ⟨dst,.call ⟨.builtin .append,#[x,y],#[t,u]⟩,type,pos,after,guard⟩ = (do pure (Next.value (<- Builtin.append_ #[t,u] type #[ρ x,ρ y]))):=by
          simp only [execOp,resolve,List.map_toArray,List.map_cons,List.map_nil,pure_bind,invoke,builtin]
         rw [hexec]
         have hx:=hρ x
         simp only [cstep,Option.bind_eq_some_iff] at hs
         obtain ⟨ys,hey,hs⟩:=hs
         split at hs
         ·rename_i b ver hev
          rw [hev] at hx
          cases hk:st.h[b]? with
          | none=>simp [hk] at hs
          | some k =>
           simp only [hk] at hs
           split at hs
           ·rename_i hb
            obtain ⟨hver,hke,hty,hlive,h63,hby⟩:=hb
            simp only [Option.some.injEq,Prod.mk.injEq] at hs
            obtain ⟨rfl,rfl⟩:=hs
            exact (gv_append_own H hM hB hu hu' hi hz hcond.1 hcond.2 hx hk hver hke hty hlive (hρ y) hey h63 hby).next
           ·cases hs
         ·rename_i hev
          rw [hev] at hx
          split at hs
          ·rename_i hb
           simp only [Option.some.injEq,Prod.mk.injEq] at hs
           obtain ⟨rfl,rfl⟩:=hs
           rw [hx.val]
           exact (gv_append_nil H hM hB hu hu' hi hz hcond.1 hcond.2 (hρ y) hey hb.1 hb.2).next
          ·cases hs
         ·rename_i e2 l hev
          rw [hev] at hx
          split at hs
          ·rename_i hb
           obtain ⟨rfl,hne,h63,hby⟩:=hb
           simp only [Option.some.injEq,Prod.mk.injEq] at hs
           obtain ⟨rfl,rfl⟩:=hs
           exact (gv_append_slx H hM hB hu hu' hi hz hcond.1 hcond.2 hx (hρ y) hey hne h63 hby).next
          ·cases hs
         ·cases hs
        ·cases hc
       ·cases hc
      ·cases hc
     ·cases hc
    ·cases hc
   case copy =>
    simp only [cop] at hc
    split at hc
    ·rename_i x y t u ha ht
     have ea:args = #[x,y]:=by apply Array.ext';simpa using ha
     have et:argTypes = #[t,u]:=by apply Array.ext';simpa using ht
     subst ea;subst et
     split at hc
     ·rename_i e hu
      simp only [Option.bind_eq_some_iff] at hc
      obtain ⟨s,hsz,hc⟩:=hc
      split at hc
      ·rename_i hs0
       simp only [Option.some.injEq] at hc
       subst hc
       have hexec:execOp ρ ⟨dst,.call ⟨.builtin .copy,#[x,y],#[t,u]⟩,type,pos,after,guard⟩ = (do pure (Next.value (<- Builtin.copy_ #[t,u] type #[ρ x,ρ y]))):=by
        simp only [execOp,resolve,List.map_toArray,List.map_cons,List.map_nil,pure_bind,invoke,builtin]
       rw [hexec]
       have hx:=hρ x
       simp only [cstep,Option.bind_eq_some_iff] at hs
       obtain ⟨ys,hey,hs⟩:=hs
       split at hs
       ·rename_i b ver hev
        rw [hev] at hx
        cases hk:st.h[b]? with
        | none=>simp [hk] at hs
        | some k =>
         simp only [hk] at hs
         split at hs
         ·rename_i hb
          obtain ⟨hver,hke,hlive⟩:=hb
          simp only [Option.some.injEq,Prod.mk.injEq] at hs
          obtain ⟨rfl,rfl⟩:=hs
          exact (gv_copy H hM hu hsz hs0 hx hk hver hke hlive (hρ y) hey).next
         ·cases hs
       ·cases hs
      ·cases hc
     ·cases hc
    ·cases hc
   case max =>
    simp only [cop] at hc
    split at hc
    ·rename_i x y ha
     have ea:args = #[x,y]:=by apply Array.ext';simpa using ha
     subst ea
     simp only [Option.some.injEq] at hc
     subst hc
     have hx:=hρ x
     have hy:=hρ y
     simp only [cstep] at hs
     split at hs
     ·rename_i k a k' b hxa hyb
      rw [hxa] at hx;rw [hyb] at hy
      simp only [Option.some.injEq,Prod.mk.injEq] at hs
      obtain ⟨rfl,rfl⟩:=hs
      refine GN.quiet H (v:=.int k (if b > a then b else a)) ?_ (avr_val rfl)
      simp [execOp,resolve,invoke,builtin,Builtin.max_,Builtin.max2,hx.val,hy.val,Result.andThen]
     ·cases hs
    ·cases hc
   case min =>
    simp only [cop] at hc
    split at hc
    ·rename_i x y ha
     have ea:args = #[x,y]:=by apply Array.ext';simpa using ha
     subst ea
     simp only [Option.some.injEq] at hc
     subst hc
     have hx:=hρ x
     have hy:=hρ y
     simp only [cstep] at hs
     split at hs
     ·rename_i k a k' b hxa hyb
      rw [hxa] at hx;rw [hyb] at hy
      simp only [Option.some.injEq,Prod.mk.injEq] at hs
      obtain ⟨rfl,rfl⟩:=hs
      refine GN.quiet H (v:=.int k (if b < a then b else a)) ?_ (avr_val rfl)
      simp [execOp,resolve,invoke,builtin,Builtin.min_,Builtin.min2,hx.val,hy.val,Result.andThen]
     ·cases hs
    ·cases hc
   all_goals (simp [cop] at hc)
 | _=>simp [cop] at hc
end Go.Am
