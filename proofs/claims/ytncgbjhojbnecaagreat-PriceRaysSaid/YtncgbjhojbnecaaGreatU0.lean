/- An abstract memory for Go code that computes: what a slot holds, said as data; what a step of the machine keeps of it. -/
import Derived.RangeFuncNested
import Derived.RangeFuncLeaves
import Derived.OrdersIn
import Derived.Below
import Derived.Laws.OwnMore
import Derived.Laws.Cover3
import Derived.Laws.BytesString
import Derived.Laws.Slices
import Derived.Laws.StructEq
set_option linter.unusedSimpArgs false
set_option linter.unusedVariables false
set_option linter.unnecessarySimpa false
open Bool renaming true -> SA, false -> TA, false_eq_true -> IA, and_eq_true -> JA, not_false -> LA
open Option renaming some -> PA, none -> QA, map_eq_some_iff -> AA, bind_eq_some_iff -> CA
open Nat renaming le_refl -> EA, le_trans -> GA
open List renaming getElem?_eq_some_iff -> dA, replicate -> jA, length_append -> sA, length_cons -> oA, getElem?_eq_getElem -> aA, set_cons_zero -> mA, set_cons_succ -> lA, length_map -> eA, length_nil -> pA
open Option.some renaming injEq -> BA
open Int renaming toNat_of_nonneg -> OA
open Prod.mk renaming injEq -> MA
namespace Go.Am
open Go.RowKit
inductive CV where
 | val (v:Value)
 | str (s:List UInt8)
 | sl (e:Nat) (l:List (List CV))
 deriving Inhabited
inductive Cell where
 | c (x:CV)
 | own (b ver:Nat)
 | ptr (b ver i off:Nat)
 | iptr (l:List CV)
 | slx (e:Nat) (l:List (List CV))
 | fn (f:FuncId) (caps:List Cell)
 | mfn (f:FuncId) (x:Cell)
 | junk
 deriving Inhabited
inductive AV where
 | one (x:Cell)
 | agg (l:List Cell)
 | tup (l:List AV)
 | junk
 deriving Inhabited
structure Blk where
 ver:Nat
 ty:TypeId
 e:Nat
 els:List (List Cell)
 live:Bool
 nn:Bool
 deriving Inhabited
structure St where
 t:List AV
 h:List Blk
inductive CR (w:World) (bad:Nat -> Prop):CV -> Value -> Prop
 | val (v:Value) (h:v.oneCell' = SA):CR w bad (.val v) v
 | str (s:List UInt8):CR w bad (.str s) (.string ⟨s.toArray⟩)
 | sl (e:Nat) (l:List (List CV)) (g off cap:Nat) (f:Nat -> Nat -> Value) (hcap:l.length <= cap) (hbad:¬ bad g) (hlt:g < w.heap.size)
   (hrow:∀ (i:Nat) (r:List CV),l[i]? = PA r -> r.length = e)
   (hc:∀ (i j:Nat),i < l.length -> j < e -> w.cell? ⟨g,off + (i * e + j),QA⟩ = PA (f i j))
   (hv:∀ (i j:Nat) (r:List CV) (x:CV),l[i]? = PA r -> r[j]? = PA x -> CR w bad x (f i j)):CR w bad (.sl e l) (.slice (PA ⟨g,off,QA⟩) l.length cap)
 | emp (e:Nat) (a:Addr):CR w bad (.sl e []) (.slice (PA a) 0 0)
inductive VR (w:World) (bad:Nat -> Prop) (h:List Blk) (hd:Nat -> Value):Cell -> Value -> Prop
 | c (x:CV) (v:Value) (hx:CR w bad x v):VR w bad h hd (.c x) v
 | own (b:Nat) (blk:Blk) (hb:h[b]? = PA blk) (h1:(hd b).oneCell' = SA):VR w bad h hd (.own b blk.ver) (hd b)
 | ownStale (b ver:Nat) (blk:Blk) (v:Value) (hb:h[b]? = PA blk) (hv:ver < blk.ver) (h1:v.oneCell' = SA):VR w bad h hd (.own b ver) v
 | ptr (b i off:Nat) (blk:Blk) (g n cap:Nat) (hb:h[b]? = PA blk) (hh:hd b = .slice (PA ⟨g,0,QA⟩) n cap) :
   VR w bad h hd (.ptr b blk.ver i off) (.pointer (PA ⟨g,i * blk.e + off,QA⟩))
 | ptrStale (b ver i off:Nat) (blk:Blk) (v:Value) (hb:h[b]? = PA blk) (hv:ver < blk.ver) (h1:v.oneCell' = SA):VR w bad h hd (.ptr b ver i off) v
 | iptr (l:List CV) (g off:Nat) (f:Nat -> Value) (hbad:¬ bad g) (hlt:g < w.heap.size)
   (hc:∀ (j:Nat) (x:CV),l[j]? = PA x -> w.cell? ⟨g,off + j,QA⟩ = PA (f j)) (hv:∀ (j:Nat) (x:CV),l[j]? = PA x -> CR w bad x (f j)) :
   VR w bad h hd (.iptr l) (.pointer (PA ⟨g,off,QA⟩))
 | fn (f:FuncId) (caps:List Cell) (vs:List Value) (hl:caps.length = vs.length)
   (hv:∀ (i:Nat) (c:Cell) (v:Value),caps[i]? = PA c -> vs[i]? = PA v -> VR w bad h hd c v):VR w bad h hd (.fn f caps) (.func (.func f) #[] vs.toArray)
 | mfn (f:FuncId) (c:Cell) (v:Value) (hv:VR w bad h hd c v):VR w bad h hd (.mfn f c) (.func (.func f) #[v] #[])
 | slx (e:Nat) (l:List (List CV)) (g off:Nat) (hx:CR w bad (.sl e l) (.slice (PA ⟨g,off,QA⟩) l.length l.length)):VR w bad h hd (.slx e l) (.slice (PA ⟨g,off,QA⟩) l.length l.length)
 | junk (v:Value) (h1:v.oneCell' = SA):VR w bad h hd .junk v
inductive AVR (w:World) (bad:Nat -> Prop) (h:List Blk) (hd:Nat -> Value):AV -> Value -> Prop
 | one (x:Cell) (v:Value) (hx:VR w bad h hd x v):AVR w bad h hd (.one x) v
 | agg (l:List Cell) (vs:List Value) (hl:l.length = vs.length)
   (hv:∀ (i:Nat) (c:Cell) (v:Value),l[i]? = PA c -> vs[i]? = PA v -> VR w bad h hd c v):AVR w bad h hd (.agg l) (.agg vs.toArray)
 | tup (l:List AV) (vs:List Value) (hl:l.length = vs.length)
   (hv:∀ (i:Nat) (c:AV) (v:Value),l[i]? = PA c -> vs[i]? = PA v -> AVR w bad h hd c v):AVR w bad h hd (.tup l) (.tuple vs.toArray)
 | junk (v:Value):AVR w bad h hd .junk v
structure Tr (w:World) (bad:Nat -> Prop) (h:List Blk) (hd:Nat -> Value) (w':World) (bad':Nat -> Prop) (h':List Blk) (hd':Nat -> Value):Prop where
 blk:∀ g,¬ bad g -> g < w.heap.size -> w'.heap[g]? = w.heap[g]?
 ok:∀ g,¬ bad g -> g < w.heap.size -> ¬ bad' g
 size:w.heap.size <= w'.heap.size
 own:∀ (b:Nat) (k:Blk),h[b]? = PA k -> ∃ k',h'[b]? = PA k' /\ ((k'.ver = k.ver /\ hd' b = hd b /\ k'.e = k.e) \/ k.ver < k'.ver)
variable {w w1 w2 w':World} {bad bad1 bad2 bad' M0:Nat -> Prop} {h h1 h2 h':List Blk} {hd hd1 hd2 hd':Nat -> Value} {B0:Nat}
theorem Tr.refl (w:World) (bad:Nat -> Prop) (h:List Blk) (hd:Nat -> Value):Tr w bad h hd w bad h hd:=⟨fun _ _ _=>rfl,fun _ h _=>h,EA _,fun b k hk=>⟨k,hk,.inl ⟨rfl,rfl,rfl⟩⟩⟩
theorem Tr.trans (a:Tr w bad h hd w1 bad1 h1 hd1) (b:Tr w1 bad1 h1 hd1 w2 bad2 h2 hd2):Tr w bad h hd w2 bad2 h2 hd2:=by
 refine ⟨fun g hg hl=>?_,fun g hg hl=>?_,GA a.size b.size,fun i k hk=>?_⟩
 ·have:=a.size
  rw [b.blk g (a.ok g hg hl) (by omega),a.blk g hg hl]
 ·have:=a.size
  exact b.ok g (a.ok g hg hl) (by omega)
 ·obtain ⟨k1,hk1,hc1⟩:=a.own i k hk
  obtain ⟨k2,hk2,hc2⟩:=b.own i k1 hk1
  refine ⟨k2,hk2,?_⟩
  rcases hc1 with ⟨v1,d1,e1⟩ | v1 <;> rcases hc2 with ⟨v2,d2,e2⟩ | v2
  ·exact .inl ⟨v2.trans v1,d2.trans d1,e2.trans e1⟩
  ·exact .inr (by omega)
  ·exact .inr (by omega)
  ·exact .inr (by omega)
theorem CR.tr (hb:∀ g,¬ bad g -> g < w.heap.size -> w'.heap[g]? = w.heap[g]?) (ho:∀ g,¬ bad g -> g < w.heap.size -> ¬ bad' g) (hs:w.heap.size <= w'.heap.size)
  {x:CV} {v:Value} (h:CR w bad x v):CR w' bad' x v:=by
 induction h with
 | val v h=>exact .val v h
 | str s=>exact .str s
 | sl e l g off cap f hcap hbad hlt hrow hc hv ih =>
  exact .sl e l g off cap f hcap (ho g hbad hlt) (by omega) hrow (fun i j hi hj=>by rw [World.cell?_of_block (w:=w) (hb g hbad hlt)];exact hc i j hi hj) ih
 | emp e a=>exact .emp e a
theorem VR.tr (t:Tr w bad h hd w' bad' h' hd') {x:Cell} {v:Value} (hx:VR w bad h hd x v):VR w' bad' h' hd' x v:=by
 induction hx with
 | c x v hx=>exact .c x v (hx.tr t.blk t.ok t.size)
 | own b blk hb h1 =>
  obtain ⟨k,hk,⟨hv,hh,he⟩ | hv⟩:=t.own b blk hb
  ·rw [<- hv,<- hh];exact .own b k hk (hh ▸ h1)
  ·exact .ownStale b _ k _ hk hv h1
 | ownStale b ver blk v hb hv h1 =>
  obtain ⟨k,hk,⟨hv',hh,he⟩ | hv'⟩:=t.own b blk hb
  ·exact .ownStale b ver k v hk (by omega) h1
  ·exact .ownStale b ver k v hk (by omega) h1
 | ptr b i off blk g n cap hb hh =>
  obtain ⟨k,hk,⟨hv',hh',he⟩ | hv'⟩:=t.own b blk hb
  ·rw [<- hv',<- he];exact .ptr b i off k g n cap hk (hh' ▸ hh)
  ·exact .ptrStale b _ i off k _ hk hv' rfl
 | ptrStale b ver i off blk v hb hv h1 =>
  obtain ⟨k,hk,⟨hv',hh,he⟩ | hv'⟩:=t.own b blk hb
  ·exact .ptrStale b ver i off k v hk (by omega) h1
  ·exact .ptrStale b ver i off k v hk (by omega) h1
 | iptr l g off f hbad hlt hc hv =>
  exact .iptr l g off f (t.ok g hbad hlt) (by have:=t.size;omega) (fun j x hj=>by rw [World.cell?_of_block (w:=w) (t.blk g hbad hlt)];exact hc j x hj) (fun j x hj=>(hv j x hj).tr t.blk t.ok t.size)
 | fn f caps vs hl hv ih=>exact .fn f caps vs hl ih
 | mfn f c v hv ih=>exact .mfn f c v ih
 | slx e l g off hx=>exact .slx e l g off (hx.tr t.blk t.ok t.size)
 | junk v h1=>exact .junk v h1
theorem AVR.tr (t:Tr w bad h hd w' bad' h' hd') {x:AV} {v:Value} (hx:AVR w bad h hd x v):AVR w' bad' h' hd' x v:=by
 induction hx with
 | one x v hx=>exact .one x v (hx.tr t)
 | agg l vs hl hv=>exact .agg l vs hl (fun i c v h1 h2=>(hv i c v h1 h2).tr t)
 | tup l vs hl hv ih=>exact .tup l vs hl ih
 | junk v=>exact .junk v
theorem CR.oneCell {x:CV} {v:Value} (h:CR w bad x v):v.oneCell' = SA:=by
 cases h <;> first | assumption | rfl
theorem VR.oneCell {x:Cell} {v:Value} (hx:VR w bad h hd x v):v.oneCell' = SA:=by
 cases hx <;> first | assumption | rfl | (rename_i hx;exact hx.oneCell)
def iB (M0:Nat -> Prop) (h:List Blk) (hd:Nat -> Value):Nat -> Prop:=fun g =>
 M0 g \/ ∃ (b:Nat) (k:Blk),h[b]? = PA k /\ k.live = SA /\ (hd b).ownBlock = PA g
structure HR (B0:Nat) (M0:Nat -> Prop) (w:World) (h:List Blk) (hd:Nat -> Value):Prop where
 blk:∀ (b:Nat) (k:Blk),h[b]? = PA k -> (∀ (i:Nat) (r:List Cell),k.els[i]? = PA r -> r.length = k.e) /\ ∃ xs:List Value,w.ownsRow B0 k.ty k.e (hd b) k.els.length xs /\
  ∀ (i:Nat) (c:Cell) (v:Value),k.els.flatten[i]? = PA c -> xs[i]? = PA v -> VR w (iB M0 h hd) h hd c v
 nn:∀ (b:Nat) (k:Blk),h[b]? = PA k -> (k.nn = TA ↔ hd b = .slice QA 0 0)
 apart:∀ (b b':Nat) (k k':Blk),h[b]? = PA k -> h[b']? = PA k' -> k.live = SA -> b ≠ b' -> ∀ g,(hd b).ownBlock = PA g -> (hd b').ownBlock ≠ PA g
theorem HR.tr_grown {row:Option Nat} (hg:w.grownBy w' row) (hr:∀ g,row = PA g -> iB M0 h hd g):Tr w (iB M0 h hd) h hd w' (iB M0 h hd) h hd :=
 ⟨fun g hb hl=>hg.block g hl (fun e=>hb (hr g e.symm)),fun g hb _=>hb,hg.size,fun b k hk=>⟨k,hk,.inl ⟨rfl,rfl,rfl⟩⟩⟩
end Go.Am
namespace Go.Am
open Go.RowKit
variable {w w1 w2 w':World} {M0:Nat -> Prop} {h h1 h2 h':List Blk} {hd hd1 hd2 hd':Nat -> Value} {B0:Nat}
def upd (hd:Nat -> Value) (b:Nat) (v:Value):Nat -> Value:=fun i=>if i = b then v else hd i
theorem SC (hd:Nat -> Value) (b:Nat) (v:Value):upd hd b v b = v:=by simp [upd]
theorem cD (hd:Nat -> Value) {b i:Nat} (v:Value) (h:i ≠ b):upd hd b v i = hd i:=by simp [upd,h]
theorem DG {w:World} {base e size n:Nat} {v:Value} {xs:List Value} (h:w.ownsRow base e size v n xs):v.oneCell' = SA:=by
 rcases h.2 with ⟨rfl,_⟩ | ⟨g,cap,cur,rfl,_⟩ <;> rfl
theorem HR.one (H:HR B0 M0 w h hd) {b:Nat} {k:Blk} (hb:h[b]? = PA k):(hd b).oneCell' = SA:=by
 obtain ⟨_,xs,ho,_⟩:=H.blk b k hb
 exact DG ho
theorem HR.lt (H:HR B0 M0 w h hd) {b:Nat} {k:Blk} (hb:h[b]? = PA k) {g:Nat} (hg:(hd b).ownBlock = PA g):B0 <= g /\ g < w.heap.size:=by
 obtain ⟨_,xs,ho,_⟩:=H.blk b k hb
 exact ho.lt g hg
theorem HR.new2 (H:HR B0 M0 w h hd) (hg:w.grownBy w' QA) {v:Value} {k:Blk} {xs:List Value}
  (hk:∀ (i:Nat) (r:List Cell),k.els[i]? = PA r -> r.length = k.e) (ho:w'.ownsRow B0 k.ty k.e v k.els.length xs)
  (hx:∀ (i:Nat) (c:Cell) (u:Value),k.els.flatten[i]? = PA c -> xs[i]? = PA u -> Tr w (iB M0 h hd) h hd w' (iB M0 (h ++ [k]) (upd hd h.length v)) (h ++ [k]) (upd hd h.length v) ->
   VR w' (iB M0 (h ++ [k]) (upd hd h.length v)) (h ++ [k]) (upd hd h.length v) c u)
  (hf:∀ g,v.ownBlock = PA g -> w.heap.size <= g) (hM:∀ g,M0 g -> g < w.heap.size) (hn:k.nn = TA ↔ v = .slice QA 0 0) :
  HR B0 M0 w' (h ++ [k]) (upd hd h.length v) /\ Tr w (iB M0 h hd) h hd w' (iB M0 (h ++ [k]) (upd hd h.length v)) (h ++ [k]) (upd hd h.length v):=by
 have hold:∀ (b:Nat) (kb:Blk),h[b]? = PA kb -> (h ++ [k])[b]? = PA kb /\ upd hd h.length v b = hd b:=fun b kb hb=>by
  have hlt:b < h.length:=(dA.1 hb).1
  exact ⟨by rw [List.getElem?_append_left hlt];exact hb,cD hd v (by omega)⟩
 have hinv:∀ (b:Nat) (kb:Blk),(h ++ [k])[b]? = PA kb -> (h[b]? = PA kb /\ b ≠ h.length) \/ (b = h.length /\ kb = k):=fun b kb hb=>by
  by_cases hlt:b < h.length
  ·rw [List.getElem?_append_left hlt] at hb;exact .inl ⟨hb,by omega⟩
  ·rw [List.getElem?_append_right (by omega)] at hb
   have:b - h.length = 0:=by
    rcases Nat.eq_zero_or_pos (b - h.length) with e | e
    ·exact e
    ·rw [List.getElem?_eq_none (by simp;omega)] at hb;cases hb
   rw [this] at hb
   exact .inr ⟨by omega,by simpa using hb.symm⟩
 have T:Tr w (iB M0 h hd) h hd w' (iB M0 (h ++ [k]) (upd hd h.length v)) (h ++ [k]) (upd hd h.length v):=by
  refine ⟨fun g hb hl=>hg.block g hl (by simp),fun g hb hl hbad=>?_,hg.size,fun b kb hb=>?_⟩
  ·rcases hbad with hm | ⟨b,kb,hkb,hlive,hgb⟩
   ·exact hb (.inl hm)
   ·rcases hinv b kb hkb with ⟨h1,h2⟩ | ⟨rfl,rfl⟩
    ·rw [cD hd v h2] at hgb
     exact hb (.inr ⟨b,kb,h1,hlive,hgb⟩)
    ·rw [SC] at hgb
     have:=hf g hgb
     omega
  ·exact ⟨kb,(hold b kb hb).1,.inl ⟨rfl,(hold b kb hb).2,rfl⟩⟩
 refine ⟨⟨fun b kb hb=>?_,fun b kb hb=>?_,fun b b' kb kb' hb hb' hl hne g hgb hgb'=>?_⟩,T⟩
 ·rcases hinv b kb hb with ⟨h1,h2⟩ | ⟨rfl,rfl⟩
  ·obtain ⟨hr,ys,hoy,hvy⟩:=H.blk b kb h1
   rw [cD hd v h2]
   exact ⟨hr,ys,hoy.kept hg (by cases e:(hd b).ownBlock <;> simp),fun i c u hc hu=>(hvy i c u hc hu).tr T⟩
  ·rw [SC]
   exact ⟨hk,xs,ho,fun i c u hc hu=>hx i c u hc hu T⟩
 ·rcases hinv b kb hb with ⟨h1,h2⟩ | ⟨rfl,rfl⟩
  ·rw [cD hd v h2];exact H.nn b kb h1
  ·rw [SC];exact hn
 ·rcases hinv b kb hb with ⟨h1,h2⟩ | ⟨rfl,rfl⟩ <;> rcases hinv b' kb' hb' with ⟨h1',h2'⟩ | ⟨rfl,rfl⟩
  ·rw [cD hd v h2] at hgb;rw [cD hd v h2'] at hgb'
   exact H.apart b b' kb kb' h1 h1' hl hne g hgb hgb'
  ·rw [cD hd v h2] at hgb;rw [SC] at hgb'
   have:=(H.lt h1 hgb).2
   have:=hf g hgb'
   omega
  ·rw [SC] at hgb;rw [cD hd v h2'] at hgb'
   have:=(H.lt h1' hgb').2
   have:=hf g hgb
   omega
  ·exact hne rfl
theorem HR.new (H:HR B0 M0 w h hd) (hg:w.grownBy w' QA) {v:Value} {k:Blk} {xs:List Value}
  (hk:∀ (i:Nat) (r:List Cell),k.els[i]? = PA r -> r.length = k.e) (ho:w'.ownsRow B0 k.ty k.e v k.els.length xs)
  (hx:∀ (i:Nat) (c:Cell) (u:Value),k.els.flatten[i]? = PA c -> xs[i]? = PA u -> VR w (iB M0 h hd) h hd c u)
  (hf:∀ g,v.ownBlock = PA g -> w.heap.size <= g) (hM:∀ g,M0 g -> g < w.heap.size) (hn:k.nn = TA ↔ v = .slice QA 0 0) :
  HR B0 M0 w' (h ++ [k]) (upd hd h.length v) /\ Tr w (iB M0 h hd) h hd w' (iB M0 (h ++ [k]) (upd hd h.length v)) (h ++ [k]) (upd hd h.length v) :=
 H.new2 hg hk ho (fun i c u hc hu T=>(hx i c u hc hu).tr T) hf hM hn
theorem HR.upd (H:HR B0 M0 w h hd) {b:Nat} {k k':Blk} (hb:h[b]? = PA k) (hlive:k.live = SA) (hg:w.grownBy w' (hd b).ownBlock) {v:Value} {xs:List Value}
  (hver:(k'.ver = k.ver /\ v = hd b /\ k'.e = k.e) \/ k.ver < k'.ver)
  (hk:∀ (i:Nat) (r:List Cell),k'.els[i]? = PA r -> r.length = k'.e) (ho:w'.ownsRow B0 k'.ty k'.e v k'.els.length xs)
  (hx:∀ (i:Nat) (c:Cell) (u:Value),k'.els.flatten[i]? = PA c -> xs[i]? = PA u -> VR w (iB M0 h hd) h hd c u)
  (hf:∀ g,v.ownBlock = PA g -> (hd b).ownBlock = PA g \/ w.heap.size <= g) (hM:∀ g,M0 g -> g < w.heap.size) (hn:k'.nn = TA ↔ v = .slice QA 0 0) :
  HR B0 M0 w' (h.set b k') (upd hd b v) /\ Tr w (iB M0 h hd) h hd w' (iB M0 (h.set b k') (Am.upd hd b v)) (h.set b k') (Am.upd hd b v):=by
 have hlt:b < h.length:=(dA.1 hb).1
 have hinv:∀ (i:Nat) (ki:Blk),(h.set b k')[i]? = PA ki -> (h[i]? = PA ki /\ i ≠ b) \/ (i = b /\ ki = k'):=fun i ki hi=>by
  rw [List.getElem?_set] at hi
  by_cases e:b = i
  ·subst e;simp [hlt] at hi;exact .inr ⟨rfl,hi.symm⟩
  ·simp [e] at hi;exact .inl ⟨hi,fun x=>e x.symm⟩
 have hset:∀ (i:Nat) (ki:Blk),h[i]? = PA ki -> i ≠ b -> (h.set b k')[i]? = PA ki:=fun i ki hi hne=>by
  rw [List.getElem?_set_ne (fun e=>hne e.symm)];exact hi
 have hsame:(h.set b k')[b]? = PA k':=by simp [hlt]
 have T:Tr w (iB M0 h hd) h hd w' (iB M0 (h.set b k') (Am.upd hd b v)) (h.set b k') (Am.upd hd b v):=by
  refine ⟨fun g hbad hl=>hg.block g hl (fun e=>hbad (.inr ⟨b,k,hb,hlive,e.symm⟩)),fun g hbad hl hbad'=>?_,hg.size,fun i ki hi=>?_⟩
  ·rcases hbad' with hm | ⟨i,ki,hki,hlv,hgi⟩
   ·exact hbad (.inl hm)
   ·rcases hinv i ki hki with ⟨h1,h2⟩ | ⟨rfl,rfl⟩
    ·rw [cD hd v h2] at hgi
     exact hbad (.inr ⟨i,ki,h1,hlv,hgi⟩)
    ·rw [SC] at hgi
     rcases hf g hgi with e | e
     ·exact hbad (.inr ⟨i,k,hb,hlive,e⟩)
     ·omega
  ·by_cases e:i = b
   ·subst e
    obtain rfl:ki = k:=by rw [hb] at hi;exact (Option.some.inj hi).symm
    refine ⟨k',hsame,?_⟩
    rw [SC]
    rcases hver with ⟨a,b,c⟩ | a
    ·exact .inl ⟨a,b,c⟩
    ·exact .inr a
   ·exact ⟨ki,hset i ki hi e,.inl ⟨rfl,cD hd v e,rfl⟩⟩
 refine ⟨⟨fun i ki hi=>?_,fun i ki hi=>?_,fun i j ki kj hi hj hl hne g hgi hgj=>?_⟩,T⟩
 ·rcases hinv i ki hi with ⟨h1,h2⟩ | ⟨rfl,rfl⟩
  ·obtain ⟨hr,ys,hoy,hvy⟩:=H.blk i ki h1
   rw [cD hd v h2]
   refine ⟨hr,ys,hoy.kept hg ?_,fun j c u hc hu=>(hvy j c u hc hu).tr T⟩
   cases e:(hd i).ownBlock with
   | none=>exact .inl rfl
   | some g =>
    refine .inr (fun e'=>?_)
    exact H.apart b i k ki hb h1 hlive (fun x=>h2 x.symm) g (e'.symm) e
  ·rw [SC]
   exact ⟨hk,xs,ho,fun j c u hc hu=>(hx j c u hc hu).tr T⟩
 ·rcases hinv i ki hi with ⟨h1,h2⟩ | ⟨rfl,rfl⟩
  ·rw [cD hd v h2];exact H.nn i ki h1
  ·rw [SC];exact hn
 ·rcases hinv i ki hi with ⟨h1,h2⟩ | ⟨rfl,rfl⟩ <;> rcases hinv j kj hj with ⟨h1',h2'⟩ | ⟨rfl,rfl⟩
  ·rw [cD hd v h2] at hgi;rw [cD hd v h2'] at hgj
   exact H.apart i j ki kj h1 h1' hl hne g hgi hgj
  ·rw [cD hd v h2] at hgi;rw [SC] at hgj
   rcases hf g hgj with e | e
   ·exact H.apart i j ki k h1 hb hl hne g hgi e
   ·have:=(H.lt h1 hgi).2;omega
  ·rw [SC] at hgi;rw [cD hd v h2'] at hgj
   rcases hf g hgi with e | e
   ·exact H.apart i j k kj hb h1' hlive hne g e hgj
   ·have:=(H.lt h1' hgj).2;omega
  ·exact hne rfl
theorem HR.same (H:HR B0 M0 w h hd) (hg:w.grownBy w' QA):HR B0 M0 w' h hd /\ Tr w (iB M0 h hd) h hd w' (iB M0 h hd) h hd:=by
 have T:Tr w (iB M0 h hd) h hd w' (iB M0 h hd) h hd:=HR.tr_grown hg (fun g e=>by simp at e)
 refine ⟨⟨fun b k hb=>?_,H.nn,H.apart⟩,T⟩
 obtain ⟨hr,xs,ho,hv⟩:=H.blk b k hb
 exact ⟨hr,xs,ho.kept hg (by cases e:(hd b).ownBlock <;> simp),fun i c u hc hu=>(hv i c u hc hu).tr T⟩
end Go.Am
namespace Go.Am
open Go.RowKit
inductive COp where
 | mv (x:Operand)
 | pick (c a b:Operand)
 | new (ty:TypeId) (zs:List Value)
 | box (ty:TypeId) (x:Operand)
 | build (zs:List Value) (parts:List (Nat × Nat × Operand))
 | mkrow (ty:TypeId) (e:Nat) (parts:List Operand)
 | load (n:Nat) (ag:Bool) (x:Operand)
 | store (n:Nat) (x y:Operand)
 | bin (op:BinOp) (x y:Operand)
 | isnil (fn neg:Bool) (x:Operand)
 | beq (neg:Bool) (x y:Operand)
 | aggeq (neg:Bool) (n:Nat) (x y:Operand)
 | un (op:UnOp) (x:Operand)
 | conv (k:IntKind) (x:Operand)
 | bstr (x:Operand)
 | mkfn (f:FuncId) (caps:List Operand)
 | mkmeth (f:FuncId) (x:Operand)
 | make (ty:TypeId) (e by':Nat) (zs:List Value) (l c:Operand)
 | slice (e:Nat) (x:Operand) (lo hi mx:Option Operand)
 | sslice (x:Operand) (lo hi:Option Operand)
 | faddr (off:Nat) (x:Operand)
 | field (off n:Nat) (ag:Bool) (x:Operand)
 | iaddr (e:Nat) (arr:Option Nat) (x i:Operand)
 | sidx (x i:Operand)
 | ext (x:Operand) (i:Nat)
 | len (str:Bool) (x:Operand)
 | append (ty:TypeId) (e by':Nat) (x y:Operand)
 | copy (e:Nat) (x y:Operand)
 | mm (max:Bool) (x y:Operand)
 | callf (f:Operand) (args:List Operand)
 | cutc (e:Nat) (x:Operand) (lo hi mx:Option Operand)
 | mkrowc (e:Nat) (parts:List Operand)
 | fill (ty:TypeId) (zs:List Value)
 | makec (e by':Nat) (zs:List Value) (l c:Operand)
 | loadc (n:Nat) (ag:Bool) (x:Operand)
 | faddrc (off:Nat) (x:Operand)
def rE (P:Program) (t:TypeId):Option Nat:=(P.info? t).map (·.size)
def aggT (P:Program) (t:TypeId):Option Bool:=(P.underlying t).map fun d=>match d with | .struct _ | .array _ _=>SA | _=>TA
def TG (P:Program) (t:TypeId):Option (List Value):=((P.info? t).bind (·.zero)).map (·.cells.toList)
def DQ:Operand -> Bool
 | .const (.slice QA 0 0)=>SA
 | _=>TA
def LS:Operand -> Bool
 | .const .nilFunc=>SA
 | _=>TA
def strFields (P:Program):(i:Nat) -> List Field -> Bool
 | _,[]=>SA
 | i, f :: fs => f.name != "_" && f.offset == i && (match P.underlying f.type with | some .string => true | _ => false) && strFields P (i + 1) fs
def JM (P:Program) (neg:Bool) (t:TypeId) (x y:Operand):Option COp :=
 match P.underlying t with
 | some .bool=>PA (.beq neg x y)
 | some (.int _) | some .string=>PA (.bin (if neg then .neq else .eql) x y)
 | some (.slice _)=>if DQ y then PA (.isnil TA neg x) else QA
 | some (.func ..)=>if LS y then PA (.isnil SA neg x) else QA
 | some (.struct fs)=>if strFields P 0 fs.toList && !P.stoodInHeld t && !P.eqGuardType P.depth t then PA (.aggeq neg fs.size x y) else QA
 | _=>QA
def cop (P:Program) (o:Oper):Option COp :=
 match o.op with
 | .move x | .assign x=>PA (.mv x)
 | .pick c a b=>PA (.pick c a b)
 | .alloc t=>(TG P t).bind fun zs=>if zs.all (·.oneCell') then PA (.new t zs) else QA
 | .box t x=>PA (.box t x)
 | .build t parts =>
  match P.underlying t,TG P t with
  | some (.struct fs),PA zs =>
   if zs.all (·.oneCell') && fs.all (fun f=>(rE P f.type).isSome) then (parts.toList.mapM fun (p:Nat × Operand)=>(fs[p.1]?).bind fun f=>(rE P f.type).map fun s=>(f.offset,s,p.2)).bind fun ps =>
    PA (.build zs ps) else QA
  | some (.array _ e),PA zs=>if zs.all (·.oneCell') then (rE P e).map fun s=>.build zs (parts.toList.map fun p=>(p.1 * s,s,p.2)) else QA
  | _,_=>QA
 | .buildSlice t len parts =>
  match P.underlying t with
  | some (.slice e) =>
   match rE P e,TG P e with
   | some s,PA zs=>if parts.toList.map (·.1) = List.range len /\ len * s <= 2 ^ 24 /\ zs.length = s /\ 0 < s /\ len <= maxLen then PA (.mkrow e s (parts.toList.map (·.2))) else QA
   | _,_=>QA
  | _=>QA
 | .load t x =>
  match rE P t,aggT P t with
  | some n,PA ag=>if ag || n == 1 then PA (.load n ag x) else QA
  | _,_=>QA
 | .store t x y=>if o.dst.isNone then (rE P t).map fun n=>.store n x y else QA
 | .binOp .eql t x y _=>JM P TA t x y
 | .binOp .neq t x y _=>JM P SA t x y
 | .binOp op _ x y _=>PA (.bin op x y)
 | .unOp op _ x=>PA (.un op x)
 | .convert s d x =>
  match P.underlying s,P.underlying d with
  | some (.int _),PA (.int k)=>PA (.conv k x)
  | some (.slice e),PA .string=>match P.underlying e with | some (.int .u8)=>PA (.bstr x) | _=>QA
  | _,_=>QA
 | .makeFunc (.func f) first caps=>if first.isEmpty then PA (.mkfn f caps.toList) else match first.toList,caps.toList with | [x],[]=>PA (.mkmeth f x) | _,_=>QA
 | .makeSlice t l c =>
  match P.underlying t with
  | some (.slice e) =>
   match P.info? e with
   | some i=>match i.zero with
    | some z=>if z.cells.size = i.size /\ 0 < i.size /\ z.cells.all (·.oneCell') then PA (.make e i.size i.bytes z.cells.toList l c) else QA
    | none=>QA
   | none=>QA
  | _=>QA
 | .slice t x lo hi mx =>
  match P.underlying t with
  | some (.slice e)=>(rE P e).map fun s=>.slice s x lo hi mx
  | some .string=>if mx.isNone then PA (.sslice x lo hi) else QA
  | _=>QA
 | .fieldAddr s x f =>
  match P.underlying s with
  | some (.struct fs)=>(fs[f]?).bind fun f=>(rE P f.type).bind fun n=>if n = 0 then QA else PA (.faddr f.offset x)
  | _=>QA
 | .nilCheck x=>PA (.faddr 0 x)
 | .field s x f =>
  match P.underlying s with
  | some (.struct fs)=>(fs[f]?).bind fun f =>
   match rE P f.type,aggT P f.type with
   | some n,PA ag=>if ag || n == 1 then PA (.field f.offset n ag x) else QA
   | _,_=>QA
  | _=>QA
 | .indexAddr t x i =>
  match P.underlying t with
  | some (.slice e)=>(rE P e).map fun s=>.iaddr s QA x i
  | some (.array n e)=>(rE P e).map fun s=>.iaddr s (PA n) x i
  | _=>QA
 | .index t x i=>match P.underlying t with | some .string=>PA (.sidx x i) | _=>QA
 | .extract x i=>PA (.ext x i)
 | .call { callee:=.builtin .len,args,argTypes } =>
  match args.toList,argTypes.toList with
  | [x],[t]=>match P.underlying t with | some (.slice _)=>PA (.len TA x) | some .string=>PA (.len SA x) | _=>QA
  | _,_=>QA
 | .call { callee:=.builtin .append,args,argTypes } =>
  match args.toList,argTypes.toList with
  | [x,y],[t,u] =>
   match P.underlying t,P.underlying u with
   | some (.slice e),PA (.slice _) =>
    match P.info? e with
    | some i=>match i.zero with
     | some z=>if z.cells.size = i.size /\ 0 < i.size then PA (.append e i.size i.bytes x y) else QA
     | none=>QA
    | none=>QA
   | _,_=>QA
  | _,_=>QA
 | .call { callee:=.builtin .copy,args,argTypes } =>
  match args.toList,argTypes.toList with
  | [x,y],[t,_]=>match P.underlying t with | some (.slice e)=>(rE P e).bind fun s=>if 0 < s then PA (.copy s x y) else QA | _=>QA
  | _,_=>QA
 | .call { callee:=.builtin .max,args,.. }=>match args.toList with | [x,y]=>PA (.mm SA x y) | _=>QA
 | .call { callee:=.builtin .min,args,.. }=>match args.toList with | [x,y]=>PA (.mm TA x y) | _=>QA
 | .call { callee:=.value f,args,.. }=>PA (.callf f args.toList)
 | _=>QA
def yB:Value -> AV
 | .agg cs=>if cs.toList.all (·.oneCell') then .agg (cs.toList.map fun v=>.c (.val v)) else .junk
 | .tuple _=>.junk
 | .string s=>.one (.c (.str s.data.toList))
 | v=>.one (.c (.val v))
def St.ev (st:St):Operand -> AV
 | .tmp t=>st.t.getD t .junk
 | .const v=>yB v
 | .global _=>.junk
 | .func f=>.one (.fn f [])
def AV.cells?:AV -> Option (List Cell)
 | .one x=>PA [x]
 | .agg l=>PA l
 | _=>QA
def AV.bool?:AV -> Option Bool
 | .one (.c (.val (.bool b)))=>PA b
 | _=>QA
def AV.int?:AV -> Option (IntKind × Int)
 | .one (.c (.val (.int k n)))=>PA (k,n)
 | _=>QA
def AV.str?:AV -> Option (List UInt8)
 | .one (.c (.str s))=>PA s
 | _=>QA
def OR (ag:Bool) (cs:List Cell):Option AV :=
 if ag then PA (.agg cs) else match cs with | [x]=>PA (.one x) | _=>QA
def ZF (h:List Blk) (n:Nat):AV -> Option (List Cell)
 | .one (.ptr b ver i off) =>
  match h[b]? with
  | some k=>if ver = k.ver then
    match k.els[i]? with
    | some r=>if off + n <= r.length then PA ((r.drop off).take n) else QA
    | none=>QA
   else QA
  | none=>QA
 | .one (.iptr l)=>if n <= l.length then PA ((l.take n).map .c) else QA
 | _=>QA
def putN (h:List Blk) (cs:List Cell):AV -> Option (List Blk)
 | .one (.ptr b ver i off) =>
  match h[b]? with
  | some k=>if ver = k.ver /\ k.live = SA then
    match k.els[i]? with
    | some r=>if off + cs.length <= r.length then PA (h.set b { k with els:=k.els.set i (r.take off ++ cs ++ r.drop (off + cs.length)) }) else QA
    | none=>QA
   else QA
  | none=>QA
 | _=>QA
def QD (h:List Blk) (e:Nat):AV -> Option (List (List Cell))
 | .one (.own b ver)=>match h[b]? with | some k=>if ver = k.ver /\ k.e = e then PA k.els else QA | none=>QA
 | .one (.c (.sl e' l))=>if e' = e then PA (l.map (·.map .c)) else QA
 | .one (.slx e' l)=>if e' = e then PA (l.map (·.map .c)) else QA
 | .one (.c (.val (.slice QA 0 0)))=>PA []
 | _=>QA
def OF (h:List Blk) (str:Bool):AV -> Option Nat
 | .one (.own b ver)=>if str then QA else match h[b]? with | some k=>if ver = k.ver /\ 0 < k.e then PA k.els.length else QA | none=>QA
 | .one (.c (.sl _ l))=>if str then QA else PA l.length
 | .one (.slx _ l)=>if str then QA else PA l.length
 | .one (.c (.str s))=>if str then PA s.length else QA
 | .one (.c (.val (.slice QA 0 0)))=>if str then QA else PA 0
 | _=>QA
def nF (op:BinOp) (k:IntKind) (x y:Int):Option Value :=
 match op with
 | .add=>PA (.int k (k.wrap (x + y)))
 | .sub=>PA (.int k (k.wrap (x - y)))
 | .mul=>PA (.int k (k.wrap (x * y)))
 | .quo=>if y = 0 then QA else PA (.int k (k.wrap (x.tdiv y)))
 | .rem=>if y = 0 then QA else PA (.int k (x.tmod y))
 | .and=>PA (.int k (k.wrap (BitVec.ofInt k.bits x &&& BitVec.ofInt k.bits y).toNat))
 | .or=>PA (.int k (k.wrap (BitVec.ofInt k.bits x ||| BitVec.ofInt k.bits y).toNat))
 | .xor=>PA (.int k (k.wrap (BitVec.ofInt k.bits x ^^^ BitVec.ofInt k.bits y).toNat))
 | .eql=>PA (.bool (x == y))
 | .neq=>PA (.bool (x != y))
 | .lss=>PA (.bool (x < y))
 | .leq=>PA (.bool (x <= y))
 | .gtr=>PA (.bool (x > y))
 | .geq=>PA (.bool (x >= y))
 | _=>QA
def kD (op:BinOp):AV -> AV -> Option AV
 | .one (.c (.val (.int k a))),.one (.c (.val (.int k' b))) =>
  match op with
  | .shl=>if b < 0 then QA else PA (.one (.c (.val (.int k (k.wrap (a * 2 ^ (min b.toNat k.bits)))))))
  | .shr=>if b < 0 then QA else PA (.one (.c (.val (.int k (a.fdiv (2 ^ (min b.toNat k.bits)))))))
  | op=>if k = k' then (nF op k a b).map fun v=>.one (.c (.val v)) else QA
 | .one (.c (.str a)),.one (.c (.str b)) =>
  match op with
  | .add=>if a.length + b.length <= 9223372036854775807 then PA (.one (.c (.str (a ++ b)))) else QA
  | .eql=>PA (.one (.c (.val (.bool (a == b)))))
  | .neq=>PA (.one (.c (.val (.bool (!(a == b))))))
  | .lss=>PA (.one (.c (.val (.bool (Op.bytesLess a b)))))
  | _=>QA
 | _,_=>QA
def vE (h:List Blk) (fn:Bool):AV -> Option Bool
 | .one (.c (.sl _ _)) | .one (.slx _ _)=>if fn then QA else PA TA
 | .one (.c (.val (.slice QA 0 0)))=>if fn then QA else PA SA
 | .one (.own b ver)=>if fn then QA else match h[b]? with | some k=>if ver = k.ver /\ 0 < k.e then PA (!k.nn) else QA | none=>QA
 | .one (.fn _ _)=>if fn then PA TA else QA
 | .one (.c (.val .nilFunc))=>if fn then PA SA else QA
 | _=>QA
def LD:List Cell -> Option (List (List UInt8))
 | []=>PA []
 | .c (.str s) :: r=>(LD r).map (s :: ·)
 | _=>QA
def ND (top:Nat) (df:Nat):Option AV -> Option Nat
 | none=>PA df
 | some x=>match x.int? with | some (_,i)=>if 0 <= i /\ i <= top then PA i.toNat else QA | none=>QA
def eF:List (List Cell) -> Option (List UInt8)
 | []=>PA []
 | [.c (.val (.int .u8 n))] :: r=>(eF r).map (UInt8.ofNat n.toNat :: ·)
 | _=>QA
def oE (st:St):List Operand -> List AV:=List.map st.ev
def wC:List Cell -> Option (List CV)
 | []=>PA []
 | .c x :: r=>(wC r).map (x :: ·)
 | _=>QA
def yN (e:Nat) (x:AV) (lo hi mx:Option AV):Option AV :=
 match x with
 | .one (.c (.sl e' l))=>if e' = e then
   (match mx with
    | none=>(ND l.length l.length hi).bind fun h=>(ND h 0 lo).map fun lw=>.one (.c (.sl e ((l.take h).drop lw)))
    | some m=>(ND l.length 0 (PA m)).bind fun mm=>(ND mm 0 hi).bind fun h=>(ND h 0 lo).bind fun lw =>
         if lw = 0 /\ h = mm /\ hi.isSome /\ 0 < h then PA (.one (.slx e (l.take h))) else QA)
  else QA
 | .one (.c (.val (.slice QA 0 0))) =>
  if mx.isNone then (ND 0 0 hi).bind fun h=>(ND 0 0 lo).map fun _=>.one (.c (.val (.slice QA 0 0))) else QA
 | _=>QA
def mD:List Blk -> Option Nat
 | []=>QA
 | k :: h=>if k.e = 0 /\ k.ver = 0 /\ k.live = SA /\ k.nn = TA /\ k.els = [] then PA 0 else (mD h).map (· + 1)
def cstep (st:St):COp -> Option (AV × List Blk)
 | .mv x=>PA (st.ev x,st.h)
 | .pick c a b=>(st.ev c).bool?.map fun t=>(if t then st.ev a else st.ev b,st.h)
 | .new ty zs=>PA (.one (.ptr st.h.length 0 0 0),st.h ++ [⟨0,ty,zs.length,[zs.map fun v=>.c (.val v)],SA,SA⟩])
 | .box ty x=>(st.ev x).cells?.map fun cs=>(.one (.ptr st.h.length 0 0 0),st.h ++ [⟨0,ty,cs.length,[cs],SA,SA⟩])
 | .build zs parts =>
  (parts.foldlM (fun cs p=>(st.ev p.2.2).cells?.bind fun pc=>if pc.length = p.2.1 /\ p.1 + pc.length <= cs.length then PA (cs.take p.1 ++ pc ++ cs.drop (p.1 + pc.length)) else QA) (zs.map fun v=>Cell.c (.val v))).map fun cs=>(.agg cs,st.h)
 | .mkrow ty e parts =>
  (parts.mapM fun p=>(st.ev p).cells?.bind fun cs=>if cs.length = e then PA cs else QA).map fun rows=>(.one (.own st.h.length 0),st.h ++ [⟨0,ty,e,rows,SA,SA⟩])
 | .load n ag x=>(ZF st.h n (st.ev x)).bind fun cs=>(OR ag cs).map fun v=>(v,st.h)
 | .store n x y=>(st.ev y).cells?.bind fun cs=>if cs.length = n then (putN st.h cs (st.ev x)).map fun h=>(.junk,h) else QA
 | .bin op x y=>(kD op (st.ev x) (st.ev y)).map fun v=>(v,st.h)
 | .beq neg x y =>
  match (st.ev x).bool?,(st.ev y).bool? with
  | some a,PA b=>PA (.one (.c (.val (.bool (if neg then !(a == b) else a == b)))),st.h)
  | _,_=>QA
 | .isnil fn neg x=>(vE st.h fn (st.ev x)).map fun b=>(.one (.c (.val (.bool (if neg then !b else b)))),st.h)
 | .aggeq neg n x y =>
  match st.ev x,st.ev y with
  | .agg a,.agg b=>(LD a).bind fun s=>(LD b).bind fun t=>if s.length = n /\ t.length = n then PA (.one (.c (.val (.bool (if neg then !(s == t) else s == t)))),st.h) else QA
  | _,_=>QA
 | .un op x =>
  match op,st.ev x with
  | .not,.one (.c (.val (.bool b)))=>PA (.one (.c (.val (.bool (!b)))),st.h)
  | .neg,.one (.c (.val (.int k n)))=>PA (.one (.c (.val (.int k (k.wrap (0 - n))))),st.h)
  | _,_=>QA
 | .conv k x=>(st.ev x).int?.map fun n=>(.one (.c (.val (.int k (k.wrap n.2)))),st.h)
 | .bstr x=>(QD st.h 1 (st.ev x)).bind fun es=>(eF es).map fun bs=>(.one (.c (.str bs)),st.h)
 | .mkfn f caps=>(caps.mapM fun p=>match st.ev p with | .one c=>PA c | _=>QA).map fun cs=>(.one (.fn f cs),st.h)
 | .mkmeth f x=>match st.ev x with | .one c=>PA (.one (.mfn f c),st.h) | _=>QA
 | .make ty e by' zs l c =>
  match (st.ev l).int?,(st.ev c).int? with
  | some (_,n),PA (_,m)=>if n = m /\ 0 <= n /\ n * by' <= 140737488355328 /\ n <= 9223372036854775807 then
    PA (.one (.own st.h.length 0),st.h ++ [⟨0,ty,e,jA n.toNat (zs.map fun v=>.c (.val v)),SA,SA⟩]) else QA
  | _,_=>QA
 | .slice e x lo hi mx =>
  match st.ev x with
  | .one (.c (.sl e' l))=>if e' = e then
    (match mx with
     | none=>(ND l.length l.length (hi.map st.ev)).bind fun h=>(ND h 0 (lo.map st.ev)).map fun lw=>(.one (.c (.sl e ((l.take h).drop lw))),st.h)
     | some m=>(ND l.length 0 (PA (st.ev m))).bind fun mm=>(ND mm 0 (hi.map st.ev)).bind fun h=>(ND h 0 (lo.map st.ev)).bind fun lw =>
          if lw = 0 /\ h = mm /\ hi.isSome /\ 0 < h then PA (.one (.slx e (l.take h)),st.h) else QA)
   else QA
  | .one (.c (.val (.slice QA 0 0))) =>
   if mx.isNone then (ND 0 0 (hi.map st.ev)).bind fun h=>(ND 0 0 (lo.map st.ev)).map fun _=>(.one (.c (.val (.slice QA 0 0))),st.h) else QA
  | .one (.own b ver) =>
   match st.h[b]?,lo,mx with
   | some k,QA,QA=>if ver = k.ver /\ k.e = e /\ k.live = SA then
     (ND k.els.length k.els.length (hi.map st.ev)).map fun h=>(.one (.own b (k.ver + 1)),st.h.set b { k with ver:=k.ver + 1,els:=k.els.take h }) else QA
   | _,_,_=>QA
  | _=>QA
 | .sslice x lo hi=>(st.ev x).str?.bind fun s=>(ND s.length s.length (hi.map st.ev)).bind fun h=>(ND h 0 (lo.map st.ev)).map fun lw=>(.one (.c (.str ((s.take h).drop lw))),st.h)
 | .faddr off x =>
  match st.ev x with
  | .one (.ptr b ver i o)=>match st.h[b]? with | some k=>if ver = k.ver /\ 0 < k.e then PA (.one (.ptr b ver i (o + off)),st.h) else QA | none=>QA
  | .one (.iptr l)=>PA (.one (.iptr (l.drop off)),st.h)
  | _=>QA
 | .field off n ag x =>
  match st.ev x with
  | .agg cs=>if off + n <= cs.length then (OR ag ((cs.drop off).take n)).map fun v=>(v,st.h) else QA
  | _=>QA
 | .iaddr e arr x i =>
  match (st.ev i).int? with
  | some (_,j) =>
   match arr,st.ev x with
   | none,.one (.own b ver) =>
    match st.h[b]? with
    | some k=>if ver = k.ver /\ k.e = e /\ 0 <= j /\ j < k.els.length then PA (.one (.ptr b ver j.toNat 0),st.h) else QA
    | none=>QA
   | none,.one (.c (.sl e' l))=>if e' = e /\ 0 <= j then (match l[j.toNat]? with | some r=>PA (.one (.iptr r),st.h) | none=>QA) else QA
   | none,.one (.slx e' l)=>if e' = e /\ 0 <= j then (match l[j.toNat]? with | some r=>PA (.one (.iptr r),st.h) | none=>QA) else QA
   | some n,.one (.ptr b ver i' off)=>match st.h[b]? with | some k=>if ver = k.ver /\ 0 < k.e /\ 0 <= j /\ j < n then PA (.one (.ptr b ver i' (off + j.toNat * e)),st.h) else QA | none=>QA
   | some n,.one (.iptr l)=>if 0 <= j /\ j < n then PA (.one (.iptr (l.drop (j.toNat * e))),st.h) else QA
   | _,_=>QA
  | none=>QA
 | .sidx x i =>
  match (st.ev x).str?,(st.ev i).int? with
  | some s,PA (_,j)=>if 0 <= j then (s[j.toNat]?).map fun b=>(.one (.c (.val (.int .u8 b.toNat))),st.h) else QA
  | _,_=>QA
 | .ext x i=>match st.ev x with | .tup l=>(l[i]?).map fun v=>(v,st.h) | _=>QA
 | .len str x=>(OF st.h str (st.ev x)).map fun (n:Nat)=>(.one (.c (.val (.int .i64 (n:Int)))),st.h)
 | .append ty e by' x y =>
  (QD st.h e (st.ev y)).bind fun ys =>
   match st.ev x with
   | .one (.own b ver) =>
    match st.h[b]? with
    | some k=>if ver = k.ver /\ k.e = e /\ k.ty = ty /\ k.live = SA /\ k.els.length + ys.length <= 9223372036854775807 /\ (k.els.length + ys.length) * by' <= 140737488355328 then
      PA (.one (.own b (k.ver + 1)),st.h.set b { k with ver:=k.ver + 1,els:=k.els ++ ys,nn:=k.nn || !ys.isEmpty }) else QA
    | none=>QA
   | .one (.c (.val (.slice QA 0 0))) =>
    if ys.length <= 9223372036854775807 /\ ys.length * by' <= 140737488355328 then PA (.one (.own st.h.length 0),st.h ++ [⟨0,ty,e,ys,SA,!ys.isEmpty⟩]) else QA
   | .one (.slx e' l) =>
    if e' = e /\ ys ≠ [] /\ l.length + ys.length <= 9223372036854775807 /\ (l.length + ys.length) * by' <= 140737488355328 then
     PA (.one (.own st.h.length 0),st.h ++ [⟨0,ty,e,l.map (·.map .c) ++ ys,SA,SA⟩]) else QA
   | _=>QA
 | .copy e x y =>
  (QD st.h e (st.ev y)).bind fun ys =>
   match st.ev x with
   | .one (.own b ver) =>
    match st.h[b]? with
    | some k=>if ver = k.ver /\ k.e = e /\ k.live = SA then
      PA (.one (.c (.val (.int .i64 (min ys.length k.els.length:Nat)))),st.h.set b { k with els:=ys.take k.els.length ++ k.els.drop ys.length }) else QA
    | none=>QA
   | _=>QA
 | .mm mx x y =>
  match st.ev x,st.ev y with
  | .one (.c (.val (.int k a))),.one (.c (.val (.int _ b)))=>PA (.one (.c (.val (.int k (if mx then (if b > a then b else a) else (if b < a then b else a))))),st.h)
  | _,_=>QA
 | .callf ..=>QA
 | .cutc e x lo hi mx=>(yN e (st.ev x) (lo.map st.ev) (hi.map st.ev) (mx.map st.ev)).map fun v=>(v,st.h)
 | .loadc n ag x =>
  match st.ev x with
  | .one (.iptr l)=>if n <= l.length then (OR ag ((l.take n).map .c)).map fun v=>(v,st.h) else QA
  | _=>QA
 | .faddrc off x =>
  match st.ev x with
  | .one (.iptr l)=>PA (.one (.iptr (l.drop off)),st.h)
  | _=>QA
 | .makec e by' zs l c =>
  match (st.ev l).int?,(st.ev c).int? with
  | some (_,n),PA (_,m)=>if n = m /\ 0 <= n /\ n * by' <= 140737488355328 /\ n <= 9223372036854775807 then
    PA (.one (.c (.sl e (jA n.toNat (zs.map .val)))),st.h) else QA
  | _,_=>QA
 | .mkrowc e parts=>(parts.mapM fun p=>(st.ev p).cells?.bind fun cs=>if cs.length = e then wC cs else QA).map fun rows=>(.one (.c (.sl e rows)),st.h)
 | .fill ty zs=>(mD st.h).map fun b=>(.one (.ptr b 1 0 0),st.h.set b ⟨1,ty,zs.length,[zs.map fun v=>.c (.val v)],SA,SA⟩)
end Go.Am
namespace Go.Am
open Go.RowKit
variable {P:Program} {w w1 w2 w':World} {M0:Nat -> Prop} {h h1 h2 h':List Blk} {hd hd1 hd2 hd':Nat -> Value} {B0:Nat}
theorem TC (g o n:Nat):(⟨g,o,QA⟩:Addr).add n = ⟨g,o + n,QA⟩:=by unfold Addr.add;split <;> simp_all
def nT (h:List Blk) (hd:Nat -> Value) (row:Option Nat):Prop:=∀ g,row = PA g -> ∃ (b:Nat) (k:Blk),h[b]? = PA k /\ k.live = SA /\ (hd b).ownBlock = PA g
theorem lD:nT h hd QA:=fun g e=>by cases e
def GV (P:Program) (B0:Nat) (M0:Nat -> Prop) (w:World) (h:List Blk) (hd:Nat -> Value) (s:Sem Value) (av:AV) (h':List Blk):Prop :=
 ∃ v w' hd' row,s.run P w = .ok v w' /\ w.grownBy w' row /\ nT h hd row /\ HR B0 M0 w' h' hd' /\ Tr w (iB M0 h hd) h hd w' (iB M0 h' hd') h' hd' /\ AVR w' (iB M0 h' hd') h' hd' av v
theorem PC (w:World) (row:Option Nat):w.grownBy w row:=⟨rfl,rfl,rfl,EA _,fun _ _ _=>rfl⟩
theorem GV.quiet (H:HR B0 M0 w h hd) {s:Sem Value} {av:AV} {v:Value} (hr:s.run P w = .ok v w) (ha:AVR w (iB M0 h hd) h hd av v):GV P B0 M0 w h hd s av h :=
 ⟨v,w,hd,QA,hr,PC w QA,lD,H,.refl _ _ _ _,ha⟩
theorem AVR.cells {bad:Nat -> Prop} {x:AV} {v:Value} {cs:List Cell} (hx:AVR w bad h hd x v) (hc:x.cells? = PA cs) :
  v.cells.toList.length = cs.length /\ ∀ (i:Nat) (c:Cell) (u:Value),cs[i]? = PA c -> v.cells.toList[i]? = PA u -> VR w bad h hd c u:=by
 cases hx with
 | one c v hv =>
  simp only [AV.cells?,BA] at hc
  subst hc
  have h1:=hv.oneCell
  have e:v.cells = #[v]:=by cases v <;> first | rfl | simp [Value.oneCell'] at h1
  rw [e]
  refine ⟨rfl,fun i c' u hi hu=>?_⟩
  match i with
  | 0=>simp at hi hu;subst hi;subst hu;exact hv
  | i + 1=>simp at hi
 | agg l vs hl hv =>
  simp only [AV.cells?,BA] at hc
  subst hc
  exact ⟨by simp [Value.cells,hl],fun i c u hi hu=>hv i c u hi (by simpa [Value.cells] using hu)⟩
 | tup l vs hl hv=>simp [AV.cells?] at hc
 | junk v=>simp [AV.cells?] at hc
theorem AVR.bool {bad:Nat -> Prop} {x:AV} {v:Value} {b:Bool} (hx:AVR w bad h hd x v) (hc:x.bool? = PA b):v = .bool b:=by
 unfold AV.bool? at hc
 split at hc
 ·simp only [BA] at hc;subst hc;cases hx with | one _ _ hv=>cases hv with | c _ _ hc=>cases hc;rfl
 ·cases hc
theorem AVR.int {bad:Nat -> Prop} {x:AV} {v:Value} {p:IntKind × Int} (hx:AVR w bad h hd x v) (hc:x.int? = PA p):v = .int p.1 p.2:=by
 unfold AV.int? at hc
 split at hc
 ·simp only [BA] at hc;subst hc;cases hx with | one _ _ hv=>cases hv with | c _ _ hc=>cases hc;rfl
 ·cases hc
theorem AVR.str {bad:Nat -> Prop} {x:AV} {v:Value} {s:List UInt8} (hx:AVR w bad h hd x v) (hc:x.str? = PA s):v = .string ⟨s.toArray⟩:=by
 unfold AV.str? at hc
 split at hc
 ·simp only [BA] at hc;subst hc;cases hx with | one _ _ hv=>cases hv with | c _ _ hc=>cases hc;rfl
 ·cases hc
theorem AVR.val {bad:Nat -> Prop} {x v:Value} (hx:AVR w bad h hd (.one (.c (.val x))) v):v = x:=by
 cases hx with | one _ _ hv=>cases hv with | c _ _ hc=>cases hc;rfl
theorem YC {bad:Nat -> Prop} {x:Value} (h1:x.oneCell' = SA):AVR w bad h hd (.one (.c (.val x))) x:=.one _ _ (.c _ _ (.val _ h1))
theorem DM {α:Type} {e:Nat}:∀ (els:List (List α)) (i j:Nat) (r:List α),(∀ (i:Nat) (r:List α),els[i]? = PA r -> r.length = e) -> els[i]? = PA r -> j < e -> els.flatten[i * e + j]? = r[j]?
 | [],i,j,r,_,hi,_=>by simp at hi
 | x :: els,0,j,r,hr,hi,hj=>by
  simp at hi;subst hi
  have:=hr 0 x rfl
  simp only [List.flatten_cons,Nat.zero_mul,Nat.zero_add]
  rw [List.getElem?_append_left (by omega)]
 | x :: els,i + 1,j,r,hr,hi,hj=>by
  have hx:=hr 0 x rfl
  simp only [List.flatten_cons,List.getElem?_cons_succ] at hi ⊢
  rw [List.getElem?_append_right (by rw [hx,Nat.add_mul];omega),hx,show (i + 1) * e + j - e = i * e + j by rw [Nat.add_mul];omega]
  exact DM els i j r (fun i r hi=>hr (i + 1) r (by simpa using hi)) hi hj
theorem vF {α:Type} {e:Nat}:∀ (els:List (List α)),(∀ (i:Nat) (r:List α),els[i]? = PA r -> r.length = e) -> els.flatten.length = els.length * e
 | [],_=>by simp
 | x :: els,hr=>by
  have hx:=hr 0 x rfl
  rw [List.flatten_cons,sA,vF els (fun i r hi=>hr (i + 1) r (by simpa using hi)),hx,oA,Nat.add_mul]
  omega
def EF (w:World) (bad:Nat -> Prop) (h:List Blk) (hd:Nat -> Value) (g o:Nat) (cs:List Cell):Prop :=
 ∀ (j:Nat) (c:Cell),cs[j]? = PA c -> ∃ u,w.cell? ⟨g,o + j,QA⟩ = PA u /\ VR w bad h hd c u
theorem EF.drop {bad:Nat -> Prop} {g o n:Nat} {cs:List Cell} (hl:EF w bad h hd g o cs):EF w bad h hd g (o + n) (cs.drop n):=fun j c hj=>by
 rw [List.getElem?_drop] at hj
 obtain ⟨u,h1,h2⟩:=hl _ c hj
 exact ⟨u,by rw [show o + n + j = o + (n + j) by omega];exact h1,h2⟩
theorem EF.take {bad:Nat -> Prop} {g o n:Nat} {cs:List Cell} (hl:EF w bad h hd g o cs):EF w bad h hd g o (cs.take n):=fun j c hj=>by
 rw [List.getElem?_take] at hj
 split at hj
 ·exact hl j c hj
 ·cases hj
theorem HR.lies (H:HR B0 M0 w h hd) {b:Nat} {k:Blk} (hb:h[b]? = PA k) {i:Nat} {r:List Cell} (hi:k.els[i]? = PA r) {g n cap:Nat} (hh:hd b = .slice (PA ⟨g,0,QA⟩) n cap) :
  EF w (iB M0 h hd) h hd g (i * k.e) r:=by
 obtain ⟨hr,xs,ho,hv⟩:=H.blk b k hb
 intro j c hj
 have hjlt:j < k.e:=by rw [<- hr i r hi];exact (dA.1 hj).1
 have hfl:=DM k.els i j r hr hi hjlt
 rw [hj] at hfl
 have hlt:i * k.e + j < xs.length:=by
  rw [ho.1,<- vF k.els hr];exact (dA.1 hfl).1
 refine ⟨xs[i * k.e + j],?_,hv _ c _ hfl (aA hlt)⟩
 have:=ho.cells (g:=g) (by rw [hh];rfl) (i * k.e + j) _ (aA hlt)
 rwa [TC,Nat.zero_add] at this
theorem HR.hasRow (H:HR B0 M0 w h hd) {b:Nat} {k:Blk} (hb:h[b]? = PA k) {i:Nat} {r:List Cell} (hi:k.els[i]? = PA r) :
  ∃ g cap,hd b = .slice (PA ⟨g,0,QA⟩) k.els.length cap:=by
 obtain ⟨hr,xs,ho,hv⟩:=H.blk b k hb
 have:=(dA.1 hi).1
 rcases ho.2 with ⟨_,hn⟩ | ⟨g,cap,cur,hh,_⟩
 ·omega
 ·exact ⟨g,cap,hh⟩
theorem CR.lies_row {bad:Nat -> Prop} {e:Nat} {l:List (List CV)} {g off len cap:Nat} (hx:CR w bad (.sl e l) (.slice (PA ⟨g,off,QA⟩) len cap)) {i:Nat} {r:List CV} (hi:l[i]? = PA r) :
  ¬ bad g /\ g < w.heap.size /\ r.length = e /\ ∃ f:Nat -> Value,(∀ (j:Nat) (x:CV),r[j]? = PA x -> w.cell? ⟨g,off + i * e + j,QA⟩ = PA (f j)) /\ (∀ (j:Nat) (x:CV),r[j]? = PA x -> CR w bad x (f j)):=by
 cases hx with
 | sl _ _ _ _ _ f hcap hbad hlt hrow hc hv =>
  have hl:=(dA.1 hi).1
  refine ⟨hbad,hlt,hrow i r hi,f i,fun j x hj=>?_,fun j x hj=>hv i j r x hi hj⟩
  rw [show off + i * e + j = off + (i * e + j) by omega]
  exact hc i j hl (by rw [<- hrow i r hi];exact (dA.1 hj).1)
 | emp=>simp at hi
theorem DP (H:HR B0 M0 w h hd) {n:Nat} {x:AV} {v:Value} {cs:List Cell} (hx:AVR w (iB M0 h hd) h hd x v) (hr:ZF h n x = PA cs) :
  cs.length = n /\ ∃ g o,v = .pointer (PA ⟨g,o,QA⟩) /\ EF w (iB M0 h hd) h hd g o cs:=by
 unfold ZF at hr
 split at hr
 ·rename_i b ver i off
  cases hk:h[b]? with
  | none=>simp [hk] at hr
  | some k =>
   simp only [hk] at hr
   split at hr
   ·rename_i hver
    cases hi:k.els[i]? with
    | none=>simp [hi] at hr
    | some r =>
     simp only [hi] at hr
     split at hr
     ·rename_i hle
      simp only [BA] at hr
      subst hr
      obtain ⟨g,cap,hh⟩:=H.hasRow hk hi
      refine ⟨by simp;omega,g,i * k.e + off,?_,((H.lies hk hi hh).drop (n:=off)).take⟩
      cases hx with
      | one _ _ hv =>
       cases hv with
       | ptr b i off blk g' n' cap' hb hh' =>
        obtain rfl:blk = k:=by rw [hk] at hb;exact (Option.some.inj hb).symm
        rw [hh] at hh';cases hh';rfl
       | ptrStale b ver i off blk v hb hlt h1 =>
        obtain rfl:blk = k:=by rw [hk] at hb;exact (Option.some.inj hb).symm
        omega
     ·cases hr
   ·cases hr
 ·rename_i l
  split at hr
  ·rename_i hle
   simp only [BA] at hr
   subst hr
   refine ⟨by simp;omega,?_⟩
   cases hx with
   | one _ _ hv =>
    cases hv with
    | iptr _ g off f hbad hlt hc hv =>
     refine ⟨g,off,rfl,fun j c hj=>?_⟩
     rw [List.getElem?_map,List.getElem?_take] at hj
     split at hj
     ·cases hlj:l[j]? with
      | none=>simp [hlj] at hj
      | some x =>
       simp [hlj] at hj
       subst hj
       exact ⟨f j,hc j x hlj,.c _ _ (hv j x hlj)⟩
     ·simp at hj
  ·cases hr
 ·cases hr
theorem mkAV_of {bad:Nat -> Prop} {ag:Bool} {cs:List Cell} {av:AV} (hm:OR ag cs = PA av) {vs:List Value} (hl:cs.length = vs.length)
  (hv:∀ (i:Nat) (c:Cell) (u:Value),cs[i]? = PA c -> vs[i]? = PA u -> VR w bad h hd c u) :
  (ag = SA /\ AVR w bad h hd av (.agg vs.toArray)) \/ (ag = TA /\ ∃ v,vs = [v] /\ AVR w bad h hd av v):=by
 unfold OR at hm
 split at hm
 ·rename_i hag
  simp only [BA] at hm
  subst hm
  exact .inl ⟨hag,.agg cs vs hl hv⟩
 ·rename_i hag
  refine .inr ⟨by simpa using hag,?_⟩
  split at hm
  ·rename_i x
   simp only [BA] at hm
   subst hm
   match vs,hl with
   | [v],_=>exact ⟨v,rfl,.one _ _ (hv 0 x v rfl rfl)⟩
  ·cases hm
theorem JI {t:TypeId} {n:Nat} {ag:Bool} (hn:rE P t = PA n) (ha:aggT P t = PA ag) {bad:Nat -> Prop} {g o:Nat} {cs:List Cell} (hcs:cs.length = n)
  (hl:EF w bad h hd g o cs) {av:AV} (hm:OR ag cs = PA av) (h1:ag = SA \/ n = 1):∃ v,(loadVar t ⟨g,o,QA⟩).run P w = .ok v w /\ AVR w bad h hd av v:=by
 have hcell:∀ j,j < n -> ∃ u,w.cell? ((⟨g,o,QA⟩:Addr).add j) = PA u /\ ∀ c,cs[j]? = PA c -> VR w bad h hd c u:=fun j hj=>by
  obtain ⟨u,h1,h2⟩:=hl j cs[j] (aA (by omega))
  exact ⟨u,by rw [TC];exact h1,fun c hc=>by rw [aA (by omega)] at hc;cases hc;exact h2⟩
 have hf:∃ f:Nat -> Value,∀ j,j < n -> w.cell? ((⟨g,o,QA⟩:Addr).add j) = PA (f j) /\ ∀ c,cs[j]? = PA c -> VR w bad h hd c (f j):=by
  refine ⟨fun j=>if hj:j < n then (hcell j hj).choose else undef,fun j hj=>?_⟩
  simp only [hj,dif_pos]
  exact (hcell j hj).choose_spec
 obtain ⟨f,hf⟩:=hf
 have hrun:=run_loadCells (P:=P) w ⟨g,o,QA⟩ n f (fun j hj=>(hf j hj).1)
 unfold rE at hn
 unfold aggT at ha
 cases hi:P.info? t with
 | none=>simp [hi] at hn
 | some inf =>
  simp only [hi,Option.map_some,BA] at hn
  cases hu:P.underlying t with
  | none=>simp [hu] at ha
  | some d =>
   have hag:(isAgg t).run P w = .ok ag w:=by
    simp only [hu,Option.map_some,BA] at ha
    subst ha
    cases d <;> simp [isAgg,run_underlying hu,Result.andThen]
   have hmk:=mkAV_of (w:=w) (h:=h) (hd:=hd) (bad:=bad) hm (vs:=(List.range n).map f) (by simp [hcs]) (fun i c u hc hu=>by
    rw [List.getElem?_map,List.getElem?_range (by have:=(dA.1 hc).1;omega)] at hu
    simp at hu
    subst hu
    exact (hf i (by have:=(dA.1 hc).1;omega)).2 c hc)
   rcases hmk with ⟨rfl,hv⟩ | ⟨rfl,v,hvs,hv⟩
   ·refine ⟨_,?_,hv⟩
    simp [loadVar,hag,sizeOf,typeInfo,hi,hn,hrun,Result.andThen]
   ·have hn1:n = 1:=by rcases h1 with h | h;· cases h
                       ·exact h
    subst hn1
    simp [List.range_succ] at hvs
    subst hvs
    have:=(hf 0 (by omega)).1
    rw [TC,Nat.add_zero] at this
    exact ⟨_,by simp [loadVar,hag,run_load,this,Result.andThen],hv⟩
end Go.Am
namespace Go.Am
open Go.RowKit
variable {P:Program} {w w1 w2 w':World} {M0:Nat -> Prop} {h h1 h2 h':List Blk} {hd hd1 hd2 hd':Nat -> Value} {B0:Nat}
def PW {α β:Type} (R:α -> β -> Prop) (l:List α) (vs:List β):Prop:=l.length = vs.length /\ ∀ (i:Nat) (c:α) (v:β),l[i]? = PA c -> vs[i]? = PA v -> R c v
theorem PW.nil {α β:Type} {R:α -> β -> Prop}:PW R [] []:=⟨rfl,fun i c v hc=>by simp at hc⟩
theorem PW.cons {α β:Type} {R:α -> β -> Prop} {c:α} {v:β} {l:List α} {vs:List β} (h0:R c v) (hh:PW R l vs):PW R (c :: l) (v :: vs) :=
 ⟨by simp [hh.1],fun i x u hx hu=>by
  cases i with
  | zero=>simp at hx hu;subst hx;subst hu;exact h0
  | succ i=>exact hh.2 i x u (by simpa using hx) (by simpa using hu)⟩
theorem PW.append {α β:Type} {R:α -> β -> Prop} {l l':List α} {vs vs':List β} (a:PW R l vs) (b:PW R l' vs'):PW R (l ++ l') (vs ++ vs') :=
 ⟨by simp [a.1,b.1],fun i x u hx hu=>by
  rw [List.getElem?_append] at hx hu
  by_cases hi:i < l.length
  ·rw [if_pos hi] at hx;rw [if_pos (by rw [<- a.1];exact hi)] at hu;exact a.2 i x u hx hu
  ·rw [if_neg hi] at hx;rw [if_neg (by rw [<- a.1];exact hi),<- a.1] at hu;exact b.2 _ x u hx hu⟩
theorem PW.take {α β:Type} {R:α -> β -> Prop} {l:List α} {vs:List β} (a:PW R l vs) (n:Nat):PW R (l.take n) (vs.take n) :=
 ⟨by simp [a.1],fun i x u hx hu=>by
  rw [List.getElem?_take] at hx hu
  split at hx
  ·rename_i hi;rw [if_pos hi] at hu;exact a.2 i x u hx hu
  ·cases hx⟩
theorem PW.drop {α β:Type} {R:α -> β -> Prop} {l:List α} {vs:List β} (a:PW R l vs) (n:Nat):PW R (l.drop n) (vs.drop n) :=
 ⟨by simp [a.1],fun i x u hx hu=>by
  rw [List.getElem?_drop] at hx hu
  exact a.2 _ x u hx hu⟩
theorem PW.mono {α β:Type} {R R':α -> β -> Prop} {l:List α} {vs:List β} (a:PW R l vs) (hh:∀ c v,R c v -> R' c v):PW R' l vs:=⟨a.1,fun i c v hc hv=>hh _ _ (a.2 i c v hc hv)⟩
theorem HR.pw (H:HR B0 M0 w h hd) {b:Nat} {k:Blk} (hb:h[b]? = PA k) :
  (∀ (i:Nat) (r:List Cell),k.els[i]? = PA r -> r.length = k.e) /\ ∃ xs:List Value,w.ownsRow B0 k.ty k.e (hd b) k.els.length xs /\ PW (VR w (iB M0 h hd) h hd) k.els.flatten xs:=by
 obtain ⟨hr,xs,ho,hv⟩:=H.blk b k hb
 exact ⟨hr,xs,ho,by rw [vF k.els hr,ho.1],hv⟩
theorem IH {α:Type} {e:Nat} (cs:List α):∀ (els:List (List α)) (i off:Nat) (r:List α),(∀ (i:Nat) (r:List α),els[i]? = PA r -> r.length = e) -> els[i]? = PA r -> off + cs.length <= e ->
  (els.set i (r.take off ++ cs ++ r.drop (off + cs.length))).flatten = els.flatten.take (i * e + off) ++ cs ++ els.flatten.drop (i * e + off + cs.length)
 | [],i,off,r,_,hi,_=>by simp at hi
 | x :: els,0,off,r,hr,hi,hoff=>by
  simp at hi;subst hi
  have:=hr 0 x rfl
  simp only [mA,List.flatten_cons,Nat.zero_mul,Nat.zero_add]
  rw [List.take_append_of_le_length (by omega),List.drop_append_of_le_length (by omega)]
  simp [List.append_assoc]
 | x :: els,i + 1,off,r,hr,hi,hoff=>by
  have hx:=hr 0 x rfl
  have ih:=IH cs els i off r (fun i r hi=>hr (i + 1) r (by simpa using hi)) (by simpa using hi) hoff
  simp only [lA,List.flatten_cons,ih]
  have e1:(i + 1) * e + off = x.length + (i * e + off):=by rw [hx,Nat.add_mul];omega
  rw [e1,List.take_length_add_append,Nat.add_assoc x.length,List.drop_length_add_append]
  simp [List.append_assoc]
theorem gv_load (H:HR B0 M0 w h hd) {t:TypeId} {n:Nat} {ag:Bool} (hn:rE P t = PA n) (ha:aggT P t = PA ag) (h1:ag = SA \/ n = 1) {x:AV} {v:Value}
  (hx:AVR w (iB M0 h hd) h hd x v) {cs:List Cell} (hr:ZF h n x = PA cs) {av:AV} (hm:OR ag cs = PA av):GV P B0 M0 w h hd (Instr.loadAt t v) av h:=by
 obtain ⟨hcs,g,o,rfl,hl⟩:=DP H hx hr
 obtain ⟨u,hrun,hu⟩:=JI hn ha hcs hl hm h1
 exact GV.quiet H (by simp [Instr.loadAt,Instr.sureAddr,hrun,Result.andThen]) hu
def GU (P:Program) (B0:Nat) (M0:Nat -> Prop) (w:World) (h:List Blk) (hd:Nat -> Value) (s:Sem Unit) (h':List Blk):Prop :=
 ∃ w' hd' row,s.run P w = .ok () w' /\ w.grownBy w' row /\ nT h hd row /\ HR B0 M0 w' h' hd' /\ Tr w (iB M0 h hd) h hd w' (iB M0 h' hd') h' hd'
theorem HR.splice (H:HR B0 M0 w h hd) (hM:∀ g,M0 g -> g < w.heap.size) {b:Nat} {k:Blk} (hb:h[b]? = PA k) (hlive:k.live = SA) {g n cap:Nat} (hh:hd b = .slice (PA ⟨g,0,QA⟩) n cap)
  {o:Nat} {cs:List Cell} {vs:List Value} (hv:PW (VR w (iB M0 h hd) h hd) cs vs) (hfit:o + cs.length <= k.els.length * k.e) {els':List (List Cell)} (hlen:els'.length = k.els.length)
  (hrow:∀ (i:Nat) (r:List Cell),els'[i]? = PA r -> r.length = k.e) (hfl:els'.flatten = k.els.flatten.take o ++ cs ++ k.els.flatten.drop (o + cs.length)) :
  ∃ w',(storeCells ⟨g,o,QA⟩ vs).run P w = .ok () w' /\ w.grownBy w' (PA g) /\ nT h hd (PA g) /\
   ∃ hd',HR B0 M0 w' (h.set b { k with els:=els' }) hd' /\ Tr w (iB M0 h hd) h hd w' (iB M0 (h.set b { k with els:=els' }) hd') (h.set b { k with els:=els' }) hd':=by
 obtain ⟨hr,xs,ho,hpw⟩:=H.pw hb
 have hvl:=hv.1
 rcases ho.2 with ⟨hnil,_⟩ | ⟨g',cap',cur,hhd,hBg,hg,hnc,hcm,hcs,htake⟩
 ·rw [hh] at hnil;cases hnil
 ·have heq:=hhd
  rw [hh] at heq
  simp only [Value.slice.injEq,BA,Addr.mk.injEq,and_true] at heq
  obtain ⟨rfl,rfl,rfl⟩:=heq
  have hle:k.els.length * k.e <= cur.size:=by rw [hcs];exact Nat.mul_le_mul_right _ hnc
  have h1:∀ v ∈ vs,v.oneCell' = SA:=fun v hv'=>by
   obtain ⟨i,hi,rfl⟩:=List.getElem_of_mem hv'
   exact (hv.2 i cs[i] _ (aA (by omega)) (aA hi)).oneCell
  have hst:=run_storeCells_at P g o k.ty vs 0 cur w hg (by simpa [<- hvl] using (by omega:o + cs.length <= cur.size)) h1
  simp only [Nat.add_zero] at hst
  refine ⟨_,hst,⟨rfl,rfl,rfl,by simp [World.setRow],fun i hi hne=>setRow_other w g i _ (fun e=>hne (by simp [e]))⟩,fun g' e=>⟨b,k,hb,hlive,by rw [hh];simpa [Value.ownBlock] using e⟩,?_⟩
  have hlc:cur.toList.length = cur.size:=by simp
  have hown:(w.setRow g (cur.toList.take o ++ vs ++ cur.toList.drop (o + vs.length)).toArray).ownsRow B0 k.ty k.e (hd b) els'.length (xs.take o ++ vs ++ xs.drop (o + vs.length)):=by
   refine ⟨?_,.inr ⟨g,cap,_,by rw [hh,hlen],hBg,setRow_heap w g cur _ k.ty _ hg,by rw [hlen];exact hnc,hcm,?_,?_⟩⟩
   ·have:=ho.1
    rw [hlen]
    simp only [sA,List.length_take,List.length_drop]
    omega
   ·simp only [List.size_toArray,sA,List.length_take,List.length_drop]
    omega
   ·rw [hlen,<- htake]
    simp only [List.toList_toArray]
    rw [List.take_take,List.drop_take]
    have:min o (k.els.length * k.e) = o:=by omega
    rw [this]
    apply List.ext_getElem?
    intro i
    simp only [List.getElem?_take,List.getElem?_append,List.getElem?_drop,sA,List.length_take,hlc]
    by_cases hi:i < k.els.length * k.e
    ·rw [if_pos hi]
     by_cases h2:i < min o cur.size + vs.length
     ·simp [h2]
     ·simp only [if_neg h2]
      rw [if_pos (by omega)]
    ·rw [if_neg hi]
     rw [if_neg (by omega),if_neg (by omega)]
  have key:=H.upd (k':={ k with els:=els' }) hb hlive (w':=w.setRow g (cur.toList.take o ++ vs ++ cur.toList.drop (o + vs.length)).toArray)
   (by rw [hh];exact ⟨rfl,rfl,rfl,by simp [World.setRow],fun i hi hne=>setRow_other w g i _ (fun e=>hne (by simp [Value.ownBlock,e]))⟩)
   (v:=hd b) (xs:=xs.take o ++ vs ++ xs.drop (o + vs.length)) (.inl ⟨rfl,rfl,rfl⟩) hrow hown
   (by
    have hp:=((hpw.take o).append hv).append (hpw.drop (o + cs.length))
    rw [<- hfl] at hp
    rw [<- hvl]
    exact hp.2) (fun g hg=>.inl hg) hM (H.nn b k hb)
  exact ⟨_,key.1,key.2⟩
theorem gu_store (H:HR B0 M0 w h hd) (hM:∀ g,M0 g -> g < w.heap.size) {t:TypeId} {n:Nat} (hn:rE P t = PA n) {x y:AV} {u v:Value}
  (hx:AVR w (iB M0 h hd) h hd x u) (hy:AVR w (iB M0 h hd) h hd y v) {cs:List Cell} (hc:y.cells? = PA cs) (hl:cs.length = n) (hp:putN h cs x = PA h') :
  GU P B0 M0 w h hd (Instr.storeAt t u v) h':=by
 obtain ⟨hvl,hvv⟩:=hy.cells hc
 unfold putN at hp
 split at hp
 ·rename_i b ver i off
  cases hk:h[b]? with
  | none=>simp [hk] at hp
  | some k =>
   simp only [hk] at hp
   split at hp
   ·rename_i hver
    obtain ⟨hver,hlive⟩:=hver
    cases hi:k.els[i]? with
    | none=>simp [hi] at hp
    | some r =>
     simp only [hi] at hp
     split at hp
     ·rename_i hle
      simp only [BA] at hp
      subst hp
      obtain ⟨hr,xs,ho,hpw⟩:=H.pw hk
      obtain ⟨g,cap,hh⟩:=H.hasRow hk hi
      have hre:=hr i r hi
      have hil:=(dA.1 hi).1
      have hbound:i * k.e + off + cs.length <= k.els.length * k.e:=by
       have:(i + 1) * k.e <= k.els.length * k.e:=Nat.mul_le_mul_right _ (by omega)
       rw [Nat.add_mul] at this
       omega
      have hu:u = .pointer (PA ⟨g,i * k.e + off,QA⟩):=by
       cases hx with
       | one _ _ hv =>
        cases hv with
        | ptr b i off blk g' n' cap' hb hh' =>
         obtain rfl:blk = k:=by rw [hk] at hb;exact (Option.some.inj hb).symm
         rw [hh] at hh';cases hh';rfl
        | ptrStale b ver i off blk v hb hlt h1 =>
         obtain rfl:blk = k:=by rw [hk] at hb;exact (Option.some.inj hb).symm
         omega
      subst hu
      obtain ⟨w',hrun,hg,hro,hd',hH,hT⟩:=H.splice (P:=P) hM hk hlive hh (o:=i * k.e + off) (cs:=cs) (vs:=v.cells.toList) ⟨hvl.symm,hvv⟩ hbound
       (els':=k.els.set i (r.take off ++ cs ++ r.drop (off + cs.length))) (by simp)
       (fun j q hj=>by
        rw [List.getElem?_set] at hj
        by_cases e:i = j
        ·rw [if_pos e,if_pos (e ▸ hil)] at hj
         simp only [BA] at hj;subst hj;simp;omega
        ·rw [if_neg e] at hj
         exact hr j q hj) (IH cs k.els i off r hr hi (by omega))
      refine ⟨w',hd',_,?_,hg,hro,hH,hT⟩
      unfold rE at hn
      cases hq:P.info? t with
      | none=>simp [hq] at hn
      | some inf =>
       simp only [hq,Option.map_some,BA] at hn
       have:v.cells.size = n:=by rw [<- hl,<- hvl];simp
       simp [Instr.storeAt,Instr.sureAddr,storeVar,sizeOf,typeInfo,hq,hn,this,hrun,Result.andThen]
     ·cases hp
   ·cases hp
 ·cases hp
theorem gv_new (H:HR B0 M0 w h hd) (hM:∀ g,M0 g -> g < w.heap.size) (hB:B0 <= w.heap.size) {t:TypeId} {cs:List Cell} {vs:List Value} (hpw:PW (VR w (iB M0 h hd) h hd) cs vs) {s:Sem Value}
  (hs:s.run P w = .ok (.pointer (PA ⟨w.heap.size,0,QA⟩)) (w.alloc (.cells vs.toArray t))) :
  GV P B0 M0 w h hd s (.one (.ptr h.length 0 0 0)) (h ++ [⟨0,t,cs.length,[cs],SA,SA⟩]):=by
 have hown:(w.alloc (.cells vs.toArray t)).ownsRow B0 t cs.length (.slice (PA ⟨w.heap.size,0,QA⟩) 1 1) 1 vs.toArray.toList :=
  World.ownsRow_lit w vs.toArray 1 hB (by simp [maxLen]) (by simp [hpw.1])
 have key:=H.new (World.grownBy_alloc w (.cells vs.toArray t) QA) (k:=⟨0,t,cs.length,[cs],SA,SA⟩) (v:=.slice (PA ⟨w.heap.size,0,QA⟩) 1 1) (xs:=vs)
  (fun i r hi=>by
   cases i with
   | zero=>simp at hi;subst hi;rfl
   | succ i=>simp at hi) (by simpa using hown) (by simpa using hpw.2) (fun g hg=>by simp [Value.ownBlock] at hg;omega) hM (by simp)
 refine ⟨_,_,_,QA,hs,World.grownBy_alloc w _ QA,lD,key.1,key.2,.one _ _ ?_⟩
 have:=VR.ptr (w:=w.alloc (.cells vs.toArray t)) (bad:=iB M0 (h ++ [⟨0,t,cs.length,[cs],SA,SA⟩]) (Am.upd hd h.length (.slice (PA ⟨w.heap.size,0,QA⟩) 1 1))) (h:=h ++ [⟨0,t,cs.length,[cs],SA,SA⟩])
  (hd:=Am.upd hd h.length (.slice (PA ⟨w.heap.size,0,QA⟩) 1 1)) h.length 0 0 ⟨0,t,cs.length,[cs],SA,SA⟩ w.heap.size 1 1 (by simp) (SC _ _ _)
 simpa using this
theorem TL {bad:Nat -> Prop} {zs:List Value} (hz:zs.all (·.oneCell') = SA):PW (VR w bad h hd) (zs.map fun v=>Cell.c (.val v)) zs :=
 ⟨by simp,fun i c v hc hv=>by
  rw [List.getElem?_map,hv] at hc
  simp at hc
  subst hc
  exact .c _ _ (.val _ (by rw [List.all_eq_true] at hz;exact hz v (List.mem_of_getElem? hv)))⟩
theorem AVR.pw {bad:Nat -> Prop} {x:AV} {v:Value} {cs:List Cell} (hx:AVR w bad h hd x v) (hc:x.cells? = PA cs):PW (VR w bad h hd) cs v.cells.toList :=
 ⟨(hx.cells hc).1.symm,(hx.cells hc).2⟩
theorem gv_alloc (H:HR B0 M0 w h hd) (hM:∀ g,M0 g -> g < w.heap.size) (hB:B0 <= w.heap.size) {t:TypeId} {zs:List Value} (hz:TG P t = PA zs) (h1:zs.all (·.oneCell') = SA) :
  GV P B0 M0 w h hd (Instr.alloc t SA (.tuple #[])) (.one (.ptr h.length 0 0 0)) (h ++ [⟨0,t,zs.length,[zs.map fun v=>.c (.val v)],SA,SA⟩]):=by
 unfold TG at hz
 cases hi:P.info? t with
 | none=>simp [hi] at hz
 | some i =>
  cases hq:i.zero with
  | none=>simp [hi,hq] at hz
  | some z =>
   simp only [hi,hq,Option.bind_some,Option.map_some,BA] at hz
   have:=gv_new (P:=P) (t:=t) H hM hB (TL (w:=w) (bad:=iB M0 h hd) (h:=h) (hd:=hd) h1) (s:=Instr.alloc t SA (.tuple #[]))
    (by simp [Instr.alloc,zeroValue,typeInfo,hi,hq,newVar,newRow,Result.andThen,<- hz])
   simpa using this
theorem gv_box (H:HR B0 M0 w h hd) (hM:∀ g,M0 g -> g < w.heap.size) (hB:B0 <= w.heap.size) {t:TypeId} {x:AV} {v:Value} (hx:AVR w (iB M0 h hd) h hd x v) {cs:List Cell} (hc:x.cells? = PA cs) :
  GV P B0 M0 w h hd (Instr.box t v) (.one (.ptr h.length 0 0 0)) (h ++ [⟨0,t,cs.length,[cs],SA,SA⟩]) :=
 gv_new H hM hB (hx.pw hc) (by simp [Instr.box,newVar,newRow,Result.andThen])
theorem gv_row (H:HR B0 M0 w h hd) (hM:∀ g,M0 g -> g < w.heap.size) {t:TypeId} {e:Nat} {els:List (List Cell)} {xs:List Value} (hrow:∀ (i:Nat) (r:List Cell),els[i]? = PA r -> r.length = e)
  (hpw:PW (VR w (iB M0 h hd) h hd) els.flatten xs) {s:Sem Value} {v:Value} (hs:s.run P w = .ok v w') (hg:w.grownBy w' QA) (ho:w'.ownsRow B0 t e v els.length xs)
  (hf:∀ g,v.ownBlock = PA g -> w.heap.size <= g) {nn:Bool} (hn:nn = TA ↔ v = .slice QA 0 0):GV P B0 M0 w h hd s (.one (.own h.length 0)) (h ++ [⟨0,t,e,els,SA,nn⟩]):=by
 have key:=H.new hg (k:=⟨0,t,e,els,SA,nn⟩) (v:=v) (xs:=xs) hrow ho hpw.2 hf hM hn
 refine ⟨_,_,_,QA,hs,hg,lD,key.1,key.2,.one _ _ ?_⟩
 have:=VR.own (w:=w') (bad:=iB M0 (h ++ [⟨0,t,e,els,SA,nn⟩]) (Am.upd hd h.length v)) (h:=h ++ [⟨0,t,e,els,SA,nn⟩]) (hd:=Am.upd hd h.length v) h.length ⟨0,t,e,els,SA,nn⟩ (by simp) (by rw [SC];exact DG ho)
 rwa [SC] at this
end Go.Am
namespace Go.Am
open Go.RowKit
variable {P:Program} {w w1 w2 w':World} {M0:Nat -> Prop} {h h1 h2 h':List Blk} {hd hd1 hd2 hd':Nat -> Value} {B0:Nat} {bad:Nat -> Prop}
theorem EF.append {g o:Nat} {a b:List Cell} (ha:EF w bad h hd g o a) (hb:EF w bad h hd g (o + a.length) b):EF w bad h hd g o (a ++ b):=fun j c hj=>by
 rw [List.getElem?_append] at hj
 split at hj
 ·exact ha j c hj
 ·obtain ⟨u,h1,h2⟩:=hb _ c hj
  exact ⟨u,by rw [show o + j = o + a.length + (j - a.length) by omega];exact h1,h2⟩
theorem EF.flatten {g e:Nat}:∀ (ys:List (List Cell)) (off:Nat),(∀ (i:Nat) (r:List Cell),ys[i]? = PA r -> r.length = e) -> (∀ (i:Nat) (r:List Cell),ys[i]? = PA r -> EF w bad h hd g (off + i * e) r) ->
  EF w bad h hd g off ys.flatten
 | [],_,_,_=>fun j c hj=>by simp at hj
 | r0 :: ys,off,hr,hl=>by
  rw [List.flatten_cons]
  have h0:=hl 0 r0 rfl
  simp only [Nat.zero_mul,Nat.add_zero] at h0
  refine h0.append ?_
  have he:=hr 0 r0 rfl
  refine EF.flatten ys _ (fun i r hi=>hr (i + 1) r (by simpa using hi)) (fun i r hi=>?_)
  have:=hl (i + 1) r (by simpa using hi)
  rwa [show off + (i + 1) * e = off + r0.length + i * e by rw [he,Nat.add_mul];omega] at this
theorem EF.values {g:Nat}:∀ (cs:List Cell) (o:Nat),EF w bad h hd g o cs -> ∃ vs:List Value,PW (VR w bad h hd) cs vs /\ ∀ (j:Nat) (u:Value),vs[j]? = PA u -> w.cell? ⟨g,o + j,QA⟩ = PA u
 | [],_,_=>⟨[],.nil,fun j u hj=>by simp at hj⟩
 | c :: cs,o,hl=>by
  obtain ⟨u,h1,h2⟩:=hl 0 c rfl
  obtain ⟨vs,hp,hc⟩:=EF.values cs (o + 1) (fun j c' hj=>by
   obtain ⟨u,a,b⟩:=hl (j + 1) c' (by simpa using hj)
   exact ⟨u,by rw [show o + 1 + j = o + (j + 1) by omega];exact a,b⟩)
  refine ⟨u :: vs,hp.cons h2,fun j v hj=>?_⟩
  cases j with
  | zero=>simp at hj;subst hj;exact h1
  | succ j=>rw [show o + (j + 1) = o + 1 + j by omega];exact hc j v (by simpa using hj)
theorem DF (H:HR B0 M0 w h hd) {e:Nat} {x:AV} {v:Value} {ys:List (List Cell)} (hx:AVR w (iB M0 h hd) h hd x v) (he:QD h e x = PA ys) :
  (∀ (i:Nat) (r:List Cell),ys[i]? = PA r -> r.length = e) /\
   ((v = .slice QA 0 0 /\ ys = []) \/ (∃ g off cap,v = .slice (PA ⟨g,off,QA⟩) ys.length cap /\ ys.length <= cap /\ EF w (iB M0 h hd) h hd g off ys.flatten) \/ (ys = [] /\ ∃ a,v = .slice (PA a) 0 0)):=by
 have closed:∀ (l:List (List CV)) (g off cap:Nat),CR w (iB M0 h hd) (.sl e l) (.slice (PA ⟨g,off,QA⟩) l.length cap) ->
   (∀ (i:Nat) (r:List Cell),(l.map (·.map Cell.c))[i]? = PA r -> r.length = e) /\ EF w (iB M0 h hd) h hd g off (l.map (·.map Cell.c)).flatten:=fun l g off cap hx=>by
  have inv:∀ (i:Nat) (r:List Cell),(l.map (·.map Cell.c))[i]? = PA r -> ∃ r':List CV,l[i]? = PA r' /\ r = r'.map .c:=fun i r hi=>by
   rw [List.getElem?_map] at hi
   cases hl:l[i]? with
   | none=>simp [hl] at hi
   | some r'=>simp [hl] at hi;exact ⟨r',rfl,hi.symm⟩
  have rows:∀ (i:Nat) (r:List Cell),(l.map (·.map Cell.c))[i]? = PA r -> r.length = e:=fun i r hi=>by
   obtain ⟨r',hr',rfl⟩:=inv i r hi
   rw [eA];exact (hx.lies_row hr').2.2.1
  refine ⟨rows,EF.flatten _ _ rows (fun i r hi=>?_)⟩
  obtain ⟨r',hr',rfl⟩:=inv i r hi
  obtain ⟨_,_,_,f,hc,hv⟩:=hx.lies_row hr'
  intro j c hj
  rw [List.getElem?_map] at hj
  cases hq:r'[j]? with
  | none=>simp [hq] at hj
  | some q=>simp [hq] at hj;subst hj;exact ⟨f j,hc j q hq,.c _ _ (hv j q hq)⟩
 unfold QD at he
 split at he
 ·rename_i b ver
  cases hk:h[b]? with
  | none=>simp [hk] at he
  | some k =>
   simp only [hk] at he
   split at he
   ·rename_i hver
    obtain ⟨hver,hke⟩:=hver
    simp only [BA] at he
    subst he
    obtain ⟨hr,xs,ho,hpw⟩:=H.pw hk
    refine ⟨fun i r hi=>by rw [hr i r hi,hke],?_⟩
    have hv:v = hd b:=by
     cases hx with
     | one _ _ hv =>
      cases hv with
      | own b blk hb h1=>rfl
      | ownStale b ver blk v hb hlt h1 =>
       obtain rfl:blk = k:=by rw [hk] at hb;exact (Option.some.inj hb).symm
       omega
    rcases ho.2 with ⟨hn,h0⟩ | ⟨g,cap,cur,hh,_,hg,hnc,_⟩
    ·exact .inl ⟨hv.trans hn,List.eq_nil_of_length_eq_zero h0⟩
    ·refine .inr (.inl ⟨g,0,cap,hv.trans hh,hnc,EF.flatten _ _ hr (fun i r hi=>?_)⟩)
     rw [Nat.zero_add]
     exact H.lies hk hi hh
   ·cases he
 ·rename_i e' l
  split at he
  ·rename_i hee
   subst hee
   simp only [BA] at he
   subst he
   cases hx with
   | one _ _ hv =>
    cases hv with
    | c _ _ hc =>
     have hc':=hc
     cases hc with
     | sl _ _ g off cap f hcap hbad hlt hrow hcc hvv =>
      obtain ⟨a,b⟩:=closed l g off cap hc'
      exact ⟨a,.inr (.inl ⟨g,off,cap,by rw [eA],by simpa using hcap,b⟩)⟩
     | emp _ a=>exact ⟨fun i r hi=>by simp at hi,.inr (.inr ⟨rfl,a,rfl⟩)⟩
  ·cases he
 ·rename_i e' l
  split at he
  ·rename_i hee
   subst hee
   simp only [BA] at he
   subst he
   cases hx with
   | one _ _ hv =>
    cases hv with
    | slx _ _ g off hc =>
     obtain ⟨a,b⟩:=closed l g off _ hc
     exact ⟨a,.inr (.inl ⟨g,off,_,by rw [eA],by simp,b⟩)⟩
  ·cases he
 ·simp only [BA] at he
  subst he
  exact ⟨fun i r hi=>by simp at hi,.inl ⟨hx.val,rfl⟩⟩
 ·cases he
theorem gG {t u e e':TypeId} (ht:P.underlying t = PA (.slice e)) (hu:P.underlying u = PA (.slice e')) (ty:TypeId) (x y:Value) :
  (Builtin.append_ #[t,u] ty #[x,y]).run P w = (Builtin.append_ #[t,t] ty #[x,y]).run P w:=by
 cases x <;> simp [Builtin.append_,run_underlying ht,run_underlying hu,Result.andThen]
theorem LK:maxLen = 9223372036854775807:=by simp [maxLen]
theorem PW.oneCell {cs:List Cell} {vs:List Value} (hp:PW (VR w bad h hd) cs vs):∀ u ∈ vs,u.oneCell' = SA:=fun v hv'=>by
 obtain ⟨i,hi,rfl⟩:=List.getElem_of_mem hv'
 exact (hp.2 i (cs[i]'(by rw [hp.1];exact hi)) _ (aA _) (aA hi)).oneCell
theorem gK {e:Nat} {a b:List (List Cell)} (ha:∀ (i:Nat) (r:List Cell),a[i]? = PA r -> r.length = e) (hb:∀ (i:Nat) (r:List Cell),b[i]? = PA r -> r.length = e) :
  ∀ (i:Nat) (r:List Cell),(a ++ b)[i]? = PA r -> r.length = e:=fun i r hi=>by
 rw [List.getElem?_append] at hi
 split at hi
 ·exact ha i r hi
 ·exact hb _ r hi
theorem PJ (H:HR B0 M0 w h hd) (hB:B0 <= w.heap.size) {t u ty e e':TypeId} {i:TypeInfo} {z:Value} (ht:P.underlying t = PA (.slice e)) (hu:P.underlying u = PA (.slice e')) (hi:P.info? e = PA i) (hz:i.zero = PA z)
  (hzs:z.cells.size = i.size) (hsz:0 < i.size) {v:Value} {n:Nat} {xs:List Value} (hown:w.ownsRow B0 e i.size v n xs) {y:AV} {vy:Value} {ys:List (List Cell)}
  (hy:AVR w (iB M0 h hd) h hd y vy) (hey:QD h i.size y = PA ys) (h63:n + ys.length <= 9223372036854775807) (hb:(n + ys.length) * i.bytes <= 140737488355328) :
  ∃ v' w' news,(Builtin.append_ #[t,u] ty #[v,vy]).run P w = .ok v' w' /\ w'.ownsRow B0 e i.size v' (n + ys.length) (xs ++ news) /\ w.grownBy w' v.ownBlock /\ PW (VR w (iB M0 h hd) h hd) ys.flatten news /\
   (∀ g,v'.ownBlock = PA g -> v.ownBlock = PA g \/ w.heap.size <= g) /\ (v' = .slice QA 0 0 ↔ v = .slice QA 0 0 /\ ys = []):=by
 obtain ⟨hrow,hcase⟩:=DF H hy hey
 have own':∀ (v':Value) (w':World) (m:Nat) (ns:List Value),w'.ownsRow B0 e i.size v' m ns -> w.grownBy w' v.ownBlock -> (∀ g,v'.ownBlock = PA g -> v.ownBlock = PA g \/ w.heap.size <= g) \/ True:=fun _ _ _ _ _ _=>.inr trivial
 rcases hcase with ⟨rfl,rfl⟩ | ⟨g,off,cap,rfl,hcap,hl⟩ | ⟨rfl,ad,rfl⟩
 ·refine ⟨v,w,[],?_,by simpa using hown,PC _ _,.nil,fun g hg=>.inl hg,by simp⟩
  rw [gG ht hu]
  exact run_append_owned_none w B0 t ty e i i.size ht hi v n xs hown
 rotate_left
 ·refine ⟨v,w,[],?_,by simpa using hown,PC _ _,.nil,fun g hg=>.inl hg,by simp⟩
  rw [gG ht hu]
  have hlc:∀ (a:Addr),(loadCells a 0).run P w = .ok #[] w:=fun a=>by simpa using run_loadCells_list (P:=P) w a [] (by simp)
  rcases hown.2 with ⟨rfl,rfl⟩ | ⟨g',cap',cur,rfl,_,hg,hnc,_⟩
  ·simp [Builtin.append_,run_underlying ht,sizeOf,typeInfo,hi,Builtin.lenOf,Builtin.firstCells,hlc,Result.andThen]
  ·simp [Builtin.append_,run_underlying ht,sizeOf,typeInfo,hi,Builtin.lenOf,Builtin.firstCells,hlc,hnc,storeCells,Result.andThen]
 ·obtain ⟨news,hpw,hcells⟩:=EF.values _ _ hl
  have hlen:news.length = ys.length * i.size:=by rw [<- hpw.1,vF ys hrow]
  by_cases h0:ys.length = 0
  ·have:ys = []:=List.eq_nil_of_length_eq_zero h0
   subst this
   have hn0:news = []:=List.eq_nil_of_length_eq_zero (by simpa using hlen)
   subst hn0
   refine ⟨v,w,[],?_,by simpa using hown,PC _ _,.nil,fun g hg=>.inl hg,by simp⟩
   rw [gG ht hu]
   have hlc:∀ (a:Addr),(loadCells a 0).run P w = .ok #[] w:=fun a=>by simpa using run_loadCells_list (P:=P) w a [] (by simp)
   rcases hown.2 with ⟨rfl,rfl⟩ | ⟨g',cap',cur,rfl,_,hg,hnc,_⟩
   ·simp [Builtin.append_,run_underlying ht,sizeOf,typeInfo,hi,Builtin.lenOf,Builtin.firstCells,hlc,Result.andThen]
   ·simp [Builtin.append_,run_underlying ht,sizeOf,typeInfo,hi,Builtin.lenOf,Builtin.firstCells,hlc,hnc,storeCells,Result.andThen]
  ·obtain ⟨v',w',hr,ho',hgr,hnil⟩:=run_append_own (P:=P) w B0 t ty e i z i.size i.bytes ht hi hz rfl rfl hzs hsz v n xs hown ⟨g,off,QA⟩ ys.length cap news hlen
    (fun j q hj=>by rw [TC];exact hcells j q hj) hpw.oneCell (by rw [LK];exact h63) hb hB
   refine ⟨v',w',news,by rw [gG ht hu];exact hr,ho',hgr,hpw,fun g' hg'=>?_,by rw [hnil,List.length_eq_zero_iff]⟩
   rcases ho'.2 with ⟨hv',hn'⟩ | ⟨g2,cap2,cur2,rfl,hB2,hg2,_⟩
   ·omega
   ·simp [Value.ownBlock] at hg'
    subst hg'
    by_cases hlt:g2 < w.heap.size
    ·refine .inl ?_
     rcases Classical.em (v.ownBlock = PA g2) with hq | hq
     ·exact hq
     ·exfalso
      rcases hown.2 with ⟨rfl,rfl⟩ | ⟨g3,cap3,cur3,rfl,hb3,hg3,hn3,hm3,hs3,ht3⟩
      ·have hr0:=run_append_nil (P:=P) w t ty e i z ht hi hz ⟨g,off,QA⟩ ys.length cap news hlen (fun j q hj=>by rw [TC];exact hcells j q hj) (by omega) (by omega) (by have:=hb;simp only [Nat.zero_add] at this;omega)
       rw [hr] at hr0
       simp only [Result.ok.injEq,Value.slice.injEq,BA,Addr.mk.injEq] at hr0
       omega
      ·by_cases hroom:n + ys.length <= cap3
       ·have hr0:=run_append_room (P:=P) w t ty e i ht hi g3 n cap3 cur3 hg3 ⟨g,off,QA⟩ ys.length cap news hlen (fun j q hj=>by rw [TC];exact hcells j q hj) hpw.oneCell hroom
         (by rw [hlen,hs3,<- Nat.add_mul];exact Nat.mul_le_mul_right _ hroom)
        rw [hr] at hr0
        simp only [Result.ok.injEq,Value.slice.injEq,BA,Addr.mk.injEq] at hr0
        exact hq (by rw [hr0.1.1.1];rfl)
       ·have hr0:=run_append_grow (P:=P) w t ty e i z ht hi hz ⟨g3,0,QA⟩ n cap3 xs hown.1 (hown.cells (g:=g3) rfl) ⟨g,off,QA⟩ ys.length cap news hlen (fun j q hj=>by rw [TC];exact hcells j q hj) (by omega) (by omega)
         (by
          have h2:=nextslicecap_le (show cap3 < n + ys.length by omega)
          have:=Nat.mul_le_mul_right i.bytes h2
          rw [Nat.mul_assoc] at this
          omega)
        rw [hr] at hr0
        simp only [Result.ok.injEq,Value.slice.injEq,BA,Addr.mk.injEq] at hr0
        omega
    ·exact .inr (by omega)
end Go.Am
namespace Go.Am
open Go.RowKit
variable {P:Program} {w w1 w2 w':World} {M0:Nat -> Prop} {h h1 h2 h':List Blk} {hd hd1 hd2 hd':Nat -> Value} {B0:Nat} {bad:Nat -> Prop}
theorem EL {b ver:Nat} {k:Blk} {v:Value} (hx:AVR w bad h hd (.one (.own b ver)) v) (hk:h[b]? = PA k) (hver:ver = k.ver):v = hd b:=by
 cases hx with
 | one _ _ hv =>
  cases hv with
  | own b blk hb h1=>rfl
  | ownStale b ver blk v hb hlt h1 =>
   obtain rfl:blk = k:=by rw [hk] at hb;exact (Option.some.inj hb).symm
   omega
theorem AVR.own_new {w':World} {b:Nat} {k:Blk} {v:Value} (hb:h[b]? = PA k) (hv:hd b = v) (h1:v.oneCell' = SA):AVR w' bad h hd (.one (.own b k.ver)) v:=by
 subst hv
 exact .one _ _ (.own b k hb h1)
theorem QR (H:HR B0 M0 w h hd) (hM:∀ g,M0 g -> g < w.heap.size) (hB:B0 <= w.heap.size) {t u ty e e':TypeId} {i:TypeInfo} {z:Value} (ht:P.underlying t = PA (.slice e)) (hu:P.underlying u = PA (.slice e')) (hi:P.info? e = PA i) (hz:i.zero = PA z)
  (hzs:z.cells.size = i.size) (hsz:0 < i.size) {b ver:Nat} {v vy:Value} {y:AV} (hx:AVR w (iB M0 h hd) h hd (.one (.own b ver)) v) {k:Blk} (hk:h[b]? = PA k) (hver:ver = k.ver) (hke:k.e = i.size) (hty:k.ty = e) (hlive:k.live = SA)
  (hy:AVR w (iB M0 h hd) h hd y vy) {ys:List (List Cell)} (hey:QD h i.size y = PA ys) (h63:k.els.length + ys.length <= 9223372036854775807) (hb:(k.els.length + ys.length) * i.bytes <= 140737488355328) :
  GV P B0 M0 w h hd (Builtin.append_ #[t,u] ty #[v,vy]) (.one (.own b (k.ver + 1))) (h.set b { k with ver:=k.ver + 1,els:=k.els ++ ys,nn:=k.nn || !ys.isEmpty }):=by
 obtain ⟨hr,xs,ho,hpw⟩:=H.pw hk
 have hv:=EL hx hk hver
 subst hv
 rw [hty,hke] at ho
 obtain ⟨v',w',news,hrun,ho',hg,hn,hf,hnil⟩:=PJ (P:=P) H hB (ty:=ty) ht hu hi hz hzs hsz ho hy hey h63 hb
 have hrow:=(DF H hy hey).1
 have key:=H.upd (k':={ k with ver:=k.ver + 1,els:=k.els ++ ys,nn:=k.nn || !ys.isEmpty }) hk hlive hg (v:=v') (xs:=xs ++ news) (.inr (Nat.lt_succ_self _)) (gK hr (by rw [hke];exact hrow))
  (by simp only [sA];rw [hty,hke];exact ho') (by
   have:=hpw.append hn
   rw [<- List.flatten_append] at this
   exact this.2) hf hM (by
   rw [hnil,<- H.nn b k hk]
   simp [Bool.or_eq_false_iff])
 have hblt:=(dA.1 hk).1
 refine ⟨v',w',_,_,hrun,hg,fun g e=>⟨b,k,hk,hlive,e⟩,key.1,key.2,?_⟩
 exact AVR.own_new (k:={ k with ver:=k.ver + 1,els:=k.els ++ ys,nn:=k.nn || !ys.isEmpty }) (by simp [hblt]) (SC _ _ _) (DG ho')
theorem TR (H:HR B0 M0 w h hd) (hM:∀ g,M0 g -> g < w.heap.size) (hB:B0 <= w.heap.size) {t u ty e e':TypeId} {i:TypeInfo} {z:Value} (ht:P.underlying t = PA (.slice e)) (hu:P.underlying u = PA (.slice e')) (hi:P.info? e = PA i) (hz:i.zero = PA z)
  (hzs:z.cells.size = i.size) (hsz:0 < i.size) {vy:Value} {y:AV}
  (hy:AVR w (iB M0 h hd) h hd y vy) {ys:List (List Cell)} (hey:QD h i.size y = PA ys) (h63:ys.length <= 9223372036854775807) (hb:ys.length * i.bytes <= 140737488355328) :
  GV P B0 M0 w h hd (Builtin.append_ #[t,u] ty #[.slice QA 0 0,vy]) (.one (.own h.length 0)) (h ++ [⟨0,e,i.size,ys,SA,!ys.isEmpty⟩]):=by
 obtain ⟨v',w',news,hrun,ho',hg,hn,hf,hnil⟩:=PJ (P:=P) H hB (ty:=ty) ht hu hi hz hzs hsz (World.ownsRow_nil w B0 e i.size) hy hey (by omega) (by simpa using hb)
 refine gv_row H hM (DF H hy hey).1 hn hrun hg (by simpa using ho') (fun g hg=>?_) (by rw [hnil];simp)
 rcases hf g hg with e | e
 ·simp [Value.ownBlock] at e
 ·exact e
theorem PR (H:HR B0 M0 w h hd) (hM:∀ g,M0 g -> g < w.heap.size) (hB:B0 <= w.heap.size) {t u ty e e':TypeId} {i:TypeInfo} {z:Value} (ht:P.underlying t = PA (.slice e)) (hu:P.underlying u = PA (.slice e')) (hi:P.info? e = PA i) (hz:i.zero = PA z)
  (hzs:z.cells.size = i.size) (hsz:0 < i.size) {l:List (List CV)} {v vy:Value} {y:AV} (hx:AVR w (iB M0 h hd) h hd (.one (.slx i.size l)) v)
  (hy:AVR w (iB M0 h hd) h hd y vy) {ys:List (List Cell)} (hey:QD h i.size y = PA ys) (hne:ys ≠ []) (h63:l.length + ys.length <= 9223372036854775807) (hb:(l.length + ys.length) * i.bytes <= 140737488355328) :
  GV P B0 M0 w h hd (Builtin.append_ #[t,u] ty #[v,vy]) (.one (.own h.length 0)) (h ++ [⟨0,e,i.size,l.map (·.map .c) ++ ys,SA,SA⟩]):=by
 have hxe:QD h i.size (.one (.slx i.size l)) = PA (l.map (·.map .c)):=by simp [QD]
 obtain ⟨hrx,hcx⟩:=DF H hx hxe
 obtain ⟨hry,hcy⟩:=DF H hy hey
 obtain ⟨g0,off0,rfl⟩:∃ g0 off0,v = .slice (PA ⟨g0,off0,QA⟩) l.length l.length:=by
  cases hx with | one _ _ hv=>cases hv with | slx _ _ g off hc=>exact ⟨g,off,rfl⟩
 replace hcx:(Value.slice (PA ⟨g0,off0,QA⟩) l.length l.length = .slice QA 0 0 /\ l.map (·.map Cell.c) = []) \/ ∃ g off cap,Value.slice (PA ⟨g0,off0,QA⟩) l.length l.length = .slice (PA ⟨g,off,QA⟩) (l.map (·.map Cell.c)).length cap /\ (l.map (·.map Cell.c)).length <= cap /\ EF w (iB M0 h hd) h hd g off (l.map (·.map Cell.c)).flatten:=by
  rcases hcx with h0 | h0 | ⟨h0,_⟩
  ·exact .inl h0
  ·exact .inr h0
  ·exact .inr ⟨g0,off0,l.length,by rw [eA],by simp,fun j c hj=>by rw [h0] at hj;simp at hj⟩
 rcases hcx with ⟨h0,_⟩ | ⟨g1,off1,cap1,hv1,_,hl1⟩
 ·cases h0
 ·simp only [Value.slice.injEq,BA,Addr.mk.injEq,and_true] at hv1
  obtain ⟨⟨rfl,rfl⟩,_,_⟩:=hv1
  rcases hcy with ⟨_,h0⟩ | ⟨g,off,cap,rfl,hcap,hl⟩ | ⟨h0,_⟩
  ·exact absurd h0 hne
  rotate_left
  ·exact absurd h0 hne
  ·have hypos:0 < ys.length:=by cases ys with | nil=>exact absurd rfl hne | cons=>simp
   obtain ⟨olds,hpo,hco⟩:=EF.values _ _ hl1
   obtain ⟨news,hpn,hcn⟩:=EF.values _ _ hl
   have hlo:olds.length = l.length * i.size:=by rw [<- hpo.1,vF _ hrx,eA]
   have hln:news.length = ys.length * i.size:=by rw [<- hpn.1,vF _ hry]
   have hrun:=run_append_grow (P:=P) w t ty e i z ht hi hz ⟨g0,off0,QA⟩ l.length l.length olds hlo (fun j q hj=>by rw [TC];exact hco j q hj) ⟨g,off,QA⟩ ys.length cap news hln
    (fun j q hj=>by rw [TC];exact hcn j q hj) (by omega) (by omega) (by
     have h2:=nextslicecap_le (show l.length < l.length + ys.length by omega)
     have:=Nat.mul_le_mul_right i.bytes h2
     rw [Nat.mul_assoc] at this
     omega)
   have hge:=grownCap_ge w (l.length + ys.length) l.length e
   have hcm:grownCap w (l.length + ys.length) l.length e <= maxLen:=grownCap_le_maxLen w _ _ e (by rw [LK];omega)
   have hrun':=(gG (P:=P) (w:=w) ht hu ty (.slice (PA ⟨g0,off0,QA⟩) l.length l.length) (.slice (PA ⟨g,off,QA⟩) ys.length cap)).trans hrun
   refine gv_row H hM (gK hrx hry) (xs:=olds ++ news) (by rw [List.flatten_append];exact hpo.append hpn) hrun' ⟨rfl,rfl,rfl,by simp,fun k hk _=>heap_alloc_old w.drew _ k hk⟩ ?_
    (fun g hg=>by simp [Value.ownBlock] at hg;omega) (by simp)
   refine ⟨by simp [hlo,hln,Nat.add_mul],.inr ⟨w.heap.size,_,_,by simp,hB,heap_alloc_new w.drew _,by simpa using hge,hcm,?_,?_⟩⟩
   ·simp only [Array.size_append,List.size_toArray,size_zeroCells,hzs,hlo,hln,<- Nat.add_mul]
    congr 1
    omega
   ·simp only [Array.toList_append,sA,eA]
    have:(l.length + ys.length) * i.size = (olds ++ news).length:=by simp [hlo,hln,Nat.add_mul]
    rw [this]
    exact List.take_left
theorem yM {bad:Nat -> Prop} {z:Value} {n sz:Nat} (hzs:z.cells.size = sz) (hsz:0 < sz) (h1:z.cells.all (·.oneCell') = SA) :
  PW (VR w bad h hd) (jA n (z.cells.toList.map fun v=>Cell.c (.val v))).flatten (madeCells z.cells (n * sz)).toList:=by
 have hrow:∀ (i:Nat) (r:List Cell),(jA n (z.cells.toList.map fun v=>Cell.c (.val v)))[i]? = PA r -> r.length = sz:=fun i r hi=>by
  rw [List.getElem?_replicate] at hi
  split at hi
  ·simp at hi;subst hi;simp [hzs]
  ·cases hi
 have hlen:(jA n (z.cells.toList.map fun v=>Cell.c (.val v))).flatten.length = n * sz:=by rw [vF _ hrow];simp
 refine ⟨by rw [hlen];simp [size_madeCells],fun i c v hc hv=>?_⟩
 have hi:i < n * sz:=by rw [<- hlen];exact (dA.1 hc).1
 have hq:i / sz < n:=(Nat.div_lt_iff_lt_mul hsz).2 hi
 have hm:=Nat.mod_lt i hsz
 have e:i = i / sz * sz + i % sz:=by rw [Nat.mul_comm];exact (Nat.div_add_mod i sz).symm
 have hf:=DM _ (i / sz) (i % sz) _ hrow (by rw [List.getElem?_replicate,if_pos hq]) hm
 rw [<- e,hc] at hf
 have hz:(z.cells.toList.map fun v=>Cell.c (.val v))[i % sz]? = PA (.c (.val (z.cells[i % sz]'(by omega)))):=by
  rw [List.getElem?_map];simp [show i % sz < z.cells.size by omega]
 rw [hz] at hf
 cases hf
 have hv':v = z.cells[i % sz]'(by omega):=by
  simp [madeCells,hi,hzs] at hv
  have:=hv.symm
  rw [this]
  simp [show i % sz < z.cells.size by omega]
 subst hv'
 refine .c _ _ (.val _ ?_)
 rw [Array.all_eq_true] at h1
 exact h1 _ (by omega)
theorem gv_make (H:HR B0 M0 w h hd) (hM:∀ g,M0 g -> g < w.heap.size) (hB:B0 <= w.heap.size) {t e:TypeId} {i:TypeInfo} {z:Value} (ht:P.underlying t = PA (.slice e)) (hi:P.info? e = PA i) (hz:i.zero = PA z)
  (hzs:z.cells.size = i.size) (hsz:0 < i.size) (h1:z.cells.all (·.oneCell') = SA) {kl kc:IntKind} {n:Int} (h0:0 <= n) (hb:n * i.bytes <= 140737488355328) (h63:n <= 9223372036854775807) :
  GV P B0 M0 w h hd (Instr.makeSlice t (.int kl n) (.int kc n)) (.one (.own h.length 0)) (h ++ [⟨0,e,i.size,jA n.toNat (z.cells.toList.map fun v=>.c (.val v)),SA,SA⟩]):=by
 obtain ⟨n,rfl⟩:∃ m:Nat,n = m:=⟨n.toNat,by omega⟩
 simp only [Int.toNat_natCast]
 obtain ⟨w',hrun,ho,hg⟩:=run_make_full (P:=P) w B0 t e i z i.size ht hi hz rfl kl kc n (by
  have hb':((n * i.bytes:Nat):Int) <= 140737488355328:=by rw [Int.natCast_mul];exact hb
  rw [Nat.mul_comm];omega) (by rw [LK];omega) hB
 refine gv_row H hM (fun j r hj=>?_) (yM hzs hsz h1) hrun hg (by simpa using ho) (fun g hg=>by simp [Value.ownBlock] at hg;omega) (by simp)
 rw [List.getElem?_replicate] at hj
 split at hj
 ·simp at hj;subst hj;simp [hzs]
 ·cases hj
theorem iH {α:Type} {e:Nat}:∀ (els:List (List α)) (n:Nat),(∀ (i:Nat) (r:List α),els[i]? = PA r -> r.length = e) -> (els.take n).flatten = els.flatten.take (n * e)
 | [],n,_=>by simp
 | x :: els,0,_=>by simp
 | x :: els,n + 1,hr=>by
  have hx:=hr 0 x rfl
  simp only [List.take_succ_cons,List.flatten_cons,iH els n (fun i r hi=>hr (i + 1) r (by simpa using hi))]
  rw [show (n + 1) * e = x.length + n * e by rw [hx,Nat.add_mul];omega,List.take_length_add_append]
theorem CM {α:Type} {e:Nat}:∀ (els:List (List α)) (n:Nat),(∀ (i:Nat) (r:List α),els[i]? = PA r -> r.length = e) -> (els.drop n).flatten = els.flatten.drop (n * e)
 | [],n,_=>by simp
 | x :: els,0,_=>by simp
 | x :: els,n + 1,hr=>by
  have hx:=hr 0 x rfl
  simp only [List.drop_succ_cons,List.flatten_cons,CM els n (fun i r hi=>hr (i + 1) r (by simpa using hi))]
  rw [show (n + 1) * e = x.length + n * e by rw [hx,Nat.add_mul];omega,List.drop_length_add_append]
theorem gv_copy (H:HR B0 M0 w h hd) (hM:∀ g,M0 g -> g < w.heap.size) {t u ty e:TypeId} {s:Nat} (ht:P.underlying t = PA (.slice e)) (hs:rE P e = PA s) (hs0:0 < s) {b ver:Nat} {v vy:Value} {y:AV}
  (hx:AVR w (iB M0 h hd) h hd (.one (.own b ver)) v) {k:Blk} (hk:h[b]? = PA k) (hver:ver = k.ver) (hke:k.e = s) (hlive:k.live = SA)
  (hy:AVR w (iB M0 h hd) h hd y vy) {ys:List (List Cell)} (hey:QD h s y = PA ys) :
  GV P B0 M0 w h hd (Builtin.copy_ #[t,u] ty #[v,vy]) (.one (.c (.val (.int .i64 (min ys.length k.els.length:Nat))))) (h.set b { k with els:=ys.take k.els.length ++ k.els.drop ys.length }):=by
 obtain ⟨hr,xs,ho,hpw⟩:=H.pw hk
 have hv:=EL hx hk hver
 subst hv
 obtain ⟨hrow,hcase⟩:=DF H hy hey
 have hinf:∃ inf,P.info? e = PA inf /\ inf.size = s:=by
  unfold rE at hs
  cases hq:P.info? e with
  | none=>simp [hq] at hs
  | some inf=>exact ⟨inf,rfl,by simpa [hq] using hs⟩
 obtain ⟨inf,hinf,hsz⟩:=hinf
 have hblt:=(dA.1 hk).1
 have hlen:min ys.length k.els.length = (ys.take k.els.length).length:=by rw [List.length_take,Nat.min_comm]
 have hnothing:ys.length = 0 \/ k.els.length = 0 -> (Builtin.copy_ #[t,u] ty #[hd b,vy]).run P w = .ok (goInt 0) w:=fun hz=>by
  have hl0:∀ (x:Addr),(loadCells x 0).run P w = .ok #[] w:=fun x=>by simpa using run_loadCells_list (P:=P) w x [] (by simp)
  have hn:∀ m,vy = .slice QA 0 0 /\ m = 0 \/ (∃ (a:Addr) (cap:Nat),vy = .slice (PA a) m cap) -> Nat.min m k.els.length = 0 -> (Builtin.copy_ #[t,u] ty #[hd b,vy]).run P w = .ok (goInt 0) w:=fun m hm h0=>by
   rcases ho.2 with ⟨hn,_⟩ | ⟨g,cap,cur,hh,_⟩ <;> rcases hm with ⟨rfl,rfl⟩ | ⟨a',cap',rfl⟩
   ·rw [hn];simp [Builtin.copy_,run_underlying ht,Builtin.lenOf,Builtin.firstCells,sizeOf,typeInfo,hinf,hl0,Result.andThen]
   ·rw [hn];simp [Builtin.copy_,run_underlying ht,Builtin.lenOf,Builtin.firstCells,sizeOf,typeInfo,hinf,hl0,Result.andThen]
   ·rw [hh];simp [Builtin.copy_,run_underlying ht,Builtin.lenOf,Builtin.firstCells,sizeOf,typeInfo,hinf,hl0,storeCells,Result.andThen]
   ·rw [hh];simp [Builtin.copy_,run_underlying ht,Builtin.lenOf,Builtin.firstCells,sizeOf,typeInfo,hinf,hl0,h0,storeCells,Result.andThen]
  rcases hcase with ⟨rfl,rfl⟩ | ⟨g,off,cap,rfl,_,_⟩ | ⟨rfl,ad,rfl⟩
  ·exact hn 0 (.inl ⟨rfl,rfl⟩) (Nat.zero_min _)
  ·exact hn ys.length (.inr ⟨⟨g,off,QA⟩,cap,rfl⟩) (by simp only [Nat.min_def];split <;> omega)
  ·exact hn 0 (.inr ⟨ad,0,rfl⟩) (Nat.zero_min _)
 by_cases hz:ys.length = 0 \/ k.els.length = 0
 ·have hels:ys.take k.els.length ++ k.els.drop ys.length = k.els:=by
   rcases hz with hz | hz
   ·have:ys = []:=List.eq_nil_of_length_eq_zero hz
    subst this;simp
   ·have:k.els = []:=List.eq_nil_of_length_eq_zero hz
    simp [this]
  have hmin:min ys.length k.els.length = 0:=by omega
  rw [hels,hmin]
  have hset:h.set b { k with els:=k.els } = h:=by
   apply List.ext_getElem?
   intro j
   rw [List.getElem?_set]
   split
   ·rename_i e;subst e;exact hk.symm
   ·rfl
  rw [hset]
  exact GV.quiet H (hnothing hz) (YC rfl)
 ·rcases hcase with ⟨_,rfl⟩ | ⟨g,off,cap,rfl,hcap,hl⟩ | ⟨rfl,_⟩
  ·simp at hz
  rotate_left
  ·simp at hz
  ·obtain ⟨g0,cap0,hh⟩:=H.hasRow hk (i:=0) (r:=k.els[0]'(by omega)) (by simp [aA])
   obtain ⟨news,hpn,hcn⟩:=EF.values _ _ hl
   have hln:news.length = ys.length * s:=by rw [<- hpn.1,vF _ hrow]
   obtain ⟨m,hm⟩:∃ m,m = min ys.length k.els.length:=⟨_,rfl⟩
   have e1:ys.take k.els.length = ys.take m:=by
    rw [hm]
    apply List.ext_getElem?
    intro j
    rw [List.getElem?_take,List.getElem?_take]
    by_cases hj:j < k.els.length
    ·by_cases hj2:j < ys.length
     ·rw [if_pos hj,if_pos (by omega)]
     ·rw [List.getElem?_eq_none (by omega)];simp
    ·rw [if_neg hj,if_neg (by omega)]
   have e2:k.els.drop ys.length = k.els.drop m:=by
    rw [hm]
    by_cases hj:ys.length <= k.els.length
    ·rw [Nat.min_eq_left hj]
    ·rw [Nat.min_eq_right (by omega),List.drop_eq_nil_of_le (by omega),List.drop_eq_nil_of_le (by omega)]
   have hpw':PW (VR w (iB M0 h hd) h hd) (ys.take m).flatten (news.take (m * s)):=by
    rw [iH ys _ hrow];exact hpn.take _
   have hmy:m <= ys.length:=by omega
   have hme:m <= k.els.length:=by omega
   have hcl:(ys.take m).flatten.length = m * s:=by
    rw [iH ys _ hrow,List.length_take,hpn.1,hln]
    exact Nat.min_eq_left (Nat.mul_le_mul_right _ hmy)
   have hl2:(ys.take m ++ k.els.drop m).length = k.els.length:=by simp;omega
   have hrow2:∀ (i:Nat) (r:List Cell),(ys.take m ++ k.els.drop m)[i]? = PA r -> r.length = k.e :=
    gK (fun i r hi=>by rw [List.getElem?_take] at hi;split at hi;· rw [hke];exact hrow i r hi
                       ·cases hi) (fun i r hi=>by rw [List.getElem?_drop] at hi;exact hr _ r hi)
   obtain ⟨w',hrun,hg,hro,hd',hH,hT⟩:=H.splice (P:=P) hM hk hlive hh (o:=0) hpw' (by rw [hcl,hke];have:=Nat.mul_le_mul_right s hme;omega) (els':=ys.take m ++ k.els.drop m) hl2 hrow2
    (by rw [List.flatten_append,CM k.els m hr,hcl,hke];simp)
   rw [e1,e2]
   refine ⟨_,w',hd',_,?_,hg,hro,hH,hT,YC rfl⟩
   have hfc:(Builtin.firstCells s m (.slice (PA ⟨g,off,QA⟩) ys.length cap)).run P w = .ok (news.take (m * s)).toArray w :=
    run_firstCells_some w s m _ _ _ _ (by rw [<- hpw'.1,hcl]) (fun j q hj=>by
     rw [List.getElem?_take] at hj
     split at hj
     ·rw [TC];exact hcn j q hj
     ·cases hj)
   rw [hh,<- hm]
   have hm2:Nat.min ys.length k.els.length = m:=hm.symm
   simp [Builtin.copy_,run_underlying ht,Builtin.lenOf,sizeOf,typeInfo,hinf,hsz,hm2,hfc,hrun,goInt,Result.andThen]
end Go.Am
namespace Go.Am
open Go.RowKit
variable {P:Program} {w w1 w2 w':World} {M0:Nat -> Prop} {h h1 h2 h':List Blk} {hd hd1 hd2 hd':Nat -> Value} {B0:Nat} {bad:Nat -> Prop}
theorem CR.cut {e:Nat} {l:List (List CV)} {g off cap:Nat} (hx:CR w bad (.sl e l) (.slice (PA ⟨g,off,QA⟩) l.length cap)) {a b m:Nat} (hb:b <= l.length) (hab:a <= b) (hbm:b <= m) (hmc:m <= cap) :
  CR w bad (.sl e ((l.take b).drop a)) (.slice (if m = a then PA ⟨g,off,QA⟩ else PA ⟨g,off + a * e,QA⟩) (b - a) (m - a)):=by
 cases hx with
 | sl _ _ _ _ _ f hcap hbad hlt hrow hc hv =>
  have hlen:((l.take b).drop a).length = b - a:=by simp;omega
  have get:∀ (i:Nat) (r:List CV),((l.take b).drop a)[i]? = PA r -> l[a + i]? = PA r /\ a + i < b:=fun i r hi=>by
   rw [List.getElem?_drop,List.getElem?_take] at hi
   split at hi
   ·rename_i hlt;exact ⟨hi,hlt⟩
   ·cases hi
  by_cases hma:m = a
  ·rw [if_pos hma]
   have e0:(l.take b).drop a = []:=List.eq_nil_of_length_eq_zero (by omega)
   rw [e0]
   have:=CR.sl (w:=w) (bad:=bad) e [] g off (m - a) f (by simp) hbad hlt (fun i r hi=>by simp at hi) (fun i j hi=>by simp at hi) (fun i j r x hi=>by simp at hi)
   rw [show b - a = ([]:List (List CV)).length by simp;omega]
   exact this
  ·rw [if_neg hma]
   have:=CR.sl (w:=w) (bad:=bad) e ((l.take b).drop a) g (off + a * e) (m - a) (fun i j=>f (a + i) j) (by omega) hbad hlt (fun i r hi=>hrow _ r (get i r hi).1)
    (fun i j hi hj=>by
     have:=hc (a + i) j (by omega) hj
     rwa [show off + ((a + i) * e + j) = off + a * e + (i * e + j) by rw [Nat.add_mul];omega] at this)
    (fun i j r x hi hj=>hv (a + i) j r x (get i r hi).1 hj)
   rw [hlen] at this
   exact this
 | emp =>
  obtain rfl:b = 0:=by simpa using hb
  obtain rfl:a = 0:=by omega
  obtain rfl:m = 0:=by omega
  exact .emp _ _
theorem UH {top df n:Nat} (h:ND top df QA = PA n):n = df:=by simp [ND] at h;exact h.symm
theorem zE {top df n:Nat} {x:AV} {v:Value} (hx:AVR w bad h hd x v) (hb:ND top df (PA x) = PA n):∃ k i,v = .int k i /\ 0 <= i /\ i <= top /\ n = i.toNat:=by
 simp only [ND] at hb
 cases hi:x.int? with
 | none=>simp [hi] at hb
 | some p =>
  simp only [hi] at hb
  split at hb
  ·rename_i hc
   simp only [BA] at hb
   exact ⟨p.1,p.2,hx.int hi,hc.1,hc.2,hb.symm⟩
  ·cases hb
def rel? (w:World) (bad:Nat -> Prop) (h:List Blk) (hd:Nat -> Value):Option AV -> Option Value -> Prop
 | none,QA=>True
 | some x,PA v=>AVR w bad h hd x v
 | _,_=>False
theorem JF {isSlice:Bool} {len cap:Nat} {lo hi:Option AV} {vlo vhi:Option Value} (hlo:rel? w bad h hd lo vlo) (hhi:rel? w bad h hd hi vhi) (hlc:len <= cap)
  {b a:Nat} (hb:ND len len hi = PA b) (ha:ND b 0 lo = PA a):(Instr.sliceBounds isSlice len cap vlo vhi QA).run P w = .ok (a,b,cap) w /\ b <= len /\ a <= b:=by
 cases hi <;> cases vhi <;> simp only [rel?] at hhi <;> cases lo <;> cases vlo <;> simp only [rel?] at hlo
 ·have:=UH hb;have:=UH ha;subst_vars
  exact ⟨by simp [Instr.sliceBounds,Result.andThen],by omega,by omega⟩
 ·have:=UH hb
  obtain ⟨k,i,rfl,h0,h1,rfl⟩:=zE hlo ha
  subst_vars
  refine ⟨by simp [Instr.sliceBounds,run_sliceBound,h0,h1,Result.andThen],by omega,by omega⟩
 ·obtain ⟨k,i,rfl,h0,h1,rfl⟩:=zE hhi hb
  have:=UH ha
  subst this
  have h2:i <= (cap:Int):=by omega
  refine ⟨by simp [Instr.sliceBounds,run_sliceBound,h0,h2,Result.andThen],by omega,by omega⟩
 ·obtain ⟨k,i,rfl,h0,h1,rfl⟩:=zE hhi hb
  obtain ⟨k',i',rfl,h0',h1',rfl⟩:=zE hlo ha
  have h2:i <= (cap:Int):=by omega
  have e:(i.toNat:Int) = i:=OA h0
  rw [e] at h1'
  refine ⟨by simp [Instr.sliceBounds,run_sliceBound,h0,h2,h0',h1',e,Result.andThen],by omega,by omega⟩
theorem str_extract (s:List UInt8) (a b:Nat):(⟨s.toArray⟩:ByteArray).extract a b = ⟨((s.take b).drop a).toArray⟩:=by
 apply ByteArray.ext
 rw [ByteArray.data_extract]
 simp [List.drop_take]
theorem str_append (s t:List UInt8):(⟨s.toArray⟩:ByteArray) ++ ⟨t.toArray⟩ = ⟨(s ++ t).toArray⟩:=by
 apply ByteArray.ext
 simp
theorem jJ (s:List UInt8):(⟨s.toArray⟩:ByteArray).toList = s:=by rw [ByteArray.toList_eq]
theorem eK (s:List UInt8):(⟨s.toArray⟩:ByteArray).size = s.length:=by simp [ByteArray.size]
theorem str_get (s:List UInt8) (i:Nat):(⟨s.toArray⟩:ByteArray)[i]? = s[i]?:=by
 by_cases hi:i < s.length
 ·rw [getElem?_pos (⟨s.toArray⟩:ByteArray) i (by rw [eK];exact hi),aA hi];simp [ByteArray.getElem_eq_getElem_data]
 ·rw [getElem?_neg (⟨s.toArray⟩:ByteArray) i (by rw [eK];exact hi),List.getElem?_eq_none (by omega)]
theorem bP {s:List UInt8}:AVR w bad h hd (.one (.c (.str s))) (.string ⟨s.toArray⟩):=.one _ _ (.c _ _ (.str s))
theorem AVR.strv {s:List UInt8} {v:Value} (hx:AVR w bad h hd (.one (.c (.str s))) v):v = .string ⟨s.toArray⟩:=by
 cases hx with | one _ _ hv=>cases hv with | c _ _ hc=>cases hc;rfl
theorem KI {op:BinOp} {t:TypeId} {x y:Operand} {u v:Value} (h1:∀ p q,¬ (u = .agg p /\ v = .agg q)) (h2:u ≠ .nilIface):(eqGuard op t x y u v).run P w = .ok () w:=by
 unfold eqGuard
 cases u <;> cases v <;> simp_all
theorem run_binAV {op:BinOp} {t:TypeId} {x y:Operand} {a b av:AV} {u v:Value} (hu:AVR w bad h hd a u) (hv:AVR w bad h hd b v) (hb:kD op a b = PA av) :
  ∃ r,(do eqGuard op t x y u v;binOp op t u v:Sem Value).run P w = .ok r w /\ AVR w bad h hd av r:=by
 unfold kD at hb
 split at hb
 ·rename_i k n k' m
  obtain rfl:=hu.val
  obtain rfl:=hv.val
  have hg:=KI (P:=P) (w:=w) (op:=op) (t:=t) (x:=x) (y:=y) (u:=.int k n) (v:=.int k' m) (by simp) (by simp)
  split at hb
  ·split at hb
   ·cases hb
   ·rename_i hneg
    simp only [BA] at hb
    subst hb
    refine ⟨_,?_,YC rfl⟩
    simp only [Sem.run_bind,hg,Result.andThen,binOp,Op.shift,hneg,if_false,Sem.run_pure]
  ·split at hb
   ·cases hb
   ·rename_i hneg
    simp only [BA] at hb
    subst hb
    refine ⟨_,?_,YC rfl⟩
    simp only [Sem.run_bind,hg,Result.andThen,binOp,Op.shift,hneg,if_false,Sem.run_pure]
  ·rename_i hs1 hs2
   split at hb
   ·rename_i hkk
    subst hkk
    cases op <;> simp only [nF,Option.map_some,BA,Option.map_none,reduceCtorEq] at hb <;>
     first
      | (exact absurd rfl hs1)
      | (exact absurd rfl hs2)
      | (subst hb;refine ⟨_,?_,YC rfl⟩;simp only [Sem.run_bind,hg,Result.andThen,binOp,ne_eq,not_true_eq_false,if_false,Op.intArith,Op.intBits,Op.intCmp,Sem.run_pure];done)
      | (split at hb
         ·simp at hb
         ·rename_i hy
          simp only [Option.map_some,BA] at hb
          subst hb
          refine ⟨_,?_,YC rfl⟩
          simp only [Sem.run_bind,hg,Result.andThen,binOp,ne_eq,not_true_eq_false,if_false,Op.intDiv,hy,Sem.run_pure])
   ·cases hb
 ·rename_i p q
  obtain rfl:=hu.strv
  obtain rfl:=hv.strv
  have hg:=KI (P:=P) (w:=w) (op:=op) (t:=t) (x:=x) (y:=y) (u:=.string ⟨p.toArray⟩) (v:=.string ⟨q.toArray⟩) (by simp) (by simp)
  split at hb
  ·split at hb
   ·rename_i hle
    simp only [BA] at hb
    subst hb
    refine ⟨_,?_,bP⟩
    have hmax:IntKind.i64.max = 9223372036854775807:=by decide
    have hno:¬ (((p.length + q.length:Nat):Int) > IntKind.i64.max):=by rw [hmax];omega
    simp only [Sem.run_bind,hg,Result.andThen,binOp,Op.stringOp,eK,str_append,hno,if_false,Sem.run_pure]
   ·cases hb
  ·simp only [BA] at hb
   subst hb
   exact ⟨_,by simp only [Sem.run_bind,hg,Result.andThen,binOp,Op.stringOp,jJ,Sem.run_pure],YC rfl⟩
  ·simp only [BA] at hb
   subst hb
   exact ⟨_,by simp only [Sem.run_bind,hg,Result.andThen,binOp,Op.stringOp,jJ,Sem.run_pure],YC rfl⟩
  ·simp only [BA] at hb
   subst hb
   exact ⟨_,by simp only [Sem.run_bind,hg,Result.andThen,binOp,Op.stringOp,jJ,Sem.run_pure],YC rfl⟩
  ·cases hb
 ·cases hb
theorem run_beq {t:TypeId} (ht:P.underlying t = PA .bool) {x y:Operand} {p q:Bool} (neg:Bool) :
  (do eqGuard (if neg then .neq else .eql) t x y (.bool p) (.bool q);binOp (if neg then .neq else .eql) t (.bool p) (.bool q):Sem Value).run P w = .ok (.bool (if neg then !(p == q) else p == q)) w:=by
 have hg:∀ op,(eqGuard op t x y (.bool p) (.bool q)).run P w = .ok () w:=fun op=>KI (by simp) (by simp)
 have he:(Op.equal t (.bool p) (.bool q)).run P w = .ok (p == q) w:=by
  show (Op.equalIn (9999 + 1) t (.bool p) (.bool q)).run P w = _
  rw [Op.equalIn]
  simp only [Sem.run_bind,run_underlying ht,Result.andThen,Sem.run_pure]
 cases neg
 ·simp only [Sem.run_bind,hg,Result.andThen,binOp,he,Sem.run_pure,IA,if_false]
 ·simp only [Sem.run_bind,hg,Result.andThen,binOp,he,Sem.run_pure,if_true]
end Go.Am
namespace Go.Am
open Go.RowKit
variable {P:Program} {w w1 w2 w':World} {M0:Nat -> Prop} {h h1 h2 h':List Blk} {hd hd1 hd2 hd':Nat -> Value} {B0:Nat} {bad:Nat -> Prop}
theorem kJ:∀ (l:List Cell) (s:List (List UInt8)),LD l = PA s -> l = s.map fun x=>.c (.str x)
 | [],s,hs=>by simp [LD] at hs;subst hs;rfl
 | .c (.str x) :: r,s,hs=>by
  simp only [LD,AA] at hs
  obtain ⟨t,ht,rfl⟩:=hs
  rw [kJ r t ht];rfl
 | .c (.val _) :: _,s,hs=>by simp [LD] at hs
 | .c (.sl _ _) :: _,s,hs=>by simp [LD] at hs
 | .own _ _ :: _,s,hs=>by simp [LD] at hs
 | .ptr _ _ _ _ :: _,s,hs=>by simp [LD] at hs
 | .iptr _ :: _,s,hs=>by simp [LD] at hs
 | .slx _ _ :: _,s,hs=>by simp [LD] at hs
 | .fn _ _ :: _,s,hs=>by simp [LD] at hs
 | .mfn _ _ :: _,s,hs=>by simp [LD] at hs
 | .junk :: _,s,hs=>by simp [LD] at hs
theorem AVR.strs {s:List (List UInt8)} {v:Value} (hx:AVR w bad h hd (.agg (s.map fun x=>.c (.str x))) v):v = .agg (s.map fun x=>Value.string ⟨x.toArray⟩).toArray:=by
 cases hx with
 | agg l vs hl hv =>
  congr 2
  apply List.ext_getElem?
  intro i
  cases hi:vs[i]? with
  | none =>
   have:s.length <= i:=by have:=List.getElem?_eq_none_iff.1 hi;simp at hl;omega
   rw [List.getElem?_eq_none (by simpa using this)]
  | some v =>
   have hlt:i < s.length:=by have:=(dA.1 hi).1;simp at hl;omega
   have:=hv i (.c (.str s[i])) v (by simp [hlt]) hi
   cases this with
   | c _ _ hc=>cases hc;simp [hlt]
theorem LI (d:Nat) (s t:List (List UInt8)):∀ (fs:List Field) (i:Nat),strFields P i fs = SA -> i + fs.length = s.length -> i + fs.length = t.length ->
  (Op.eqFields (d + 1) (s.map fun x=>Value.string ⟨x.toArray⟩).toArray (t.map fun x=>Value.string ⟨x.toArray⟩).toArray fs).run P w = .ok (s.drop i == t.drop i) w
 | [],i,_,h1,h2=>by
  simp only [pA,Nat.add_zero] at h1 h2
  rw [List.drop_eq_nil_of_le (by omega),List.drop_eq_nil_of_le (by omega)]
  rfl
 | f :: fs,i,hf,h1,h2=>by
  simp only [strFields,JA,bne_iff_ne,ne_eq,beq_iff_eq] at hf
  obtain ⟨⟨⟨hname,hoff⟩,hty⟩,hrest⟩:=hf
  have hu:P.underlying f.type = PA .string:=by
   split at hty
   ·assumption
   ·cases hty
  simp only [oA] at h1 h2
  have his:i < s.length:=by omega
  have hit:i < t.length:=by omega
  have hag:(isAgg f.type).run P w = .ok TA w:=by simp [isAgg,run_underlying hu,Result.andThen]
  have hp:∀ (r:List (List UInt8)) (hi:i < r.length),(part f.type (r.map fun x=>Value.string ⟨x.toArray⟩).toArray f.offset).run P w = .ok (.string ⟨(r[i]).toArray⟩) w:=fun r hi=>by
   simp [part,hag,hoff,hi,Result.andThen]
  have ih:=LI d s t fs (i + 1) hrest (by omega) (by omega)
  rw [Op.eqFields,if_pos hname]
  simp only [Sem.run_bind,hp s his,hp t hit,Result.andThen,run_equalIn_string w d f.type _ _ hu,jJ,Sem.run_ite,Sem.run_pure]
  have e1:s.drop i = s[i] :: s.drop (i + 1):=List.drop_eq_getElem_cons his
  have e2:t.drop i = t[i] :: t.drop (i + 1):=List.drop_eq_getElem_cons hit
  have key:(s.drop i == t.drop i) = (s[i] == t[i] && (s.drop (i + 1) == t.drop (i + 1))):=by rw [e1,e2,List.cons_beq_cons]
  rw [key]
  by_cases he:s[i] = t[i]
  ·simp only [he,beq_self_eq_true,Bool.not_true,IA,if_false,ih,Bool.true_and]
  ·have:(s[i] == t[i]) = TA:=by simpa using he
   simp only [this,LA,if_true,Bool.false_and]
theorem run_aggeq {t:TypeId} {fs:Array Field} (ht:P.underlying t = PA (.struct fs)) (hf:strFields P 0 fs.toList = SA) (hp:P.stoodInHeld t = TA) (hg:P.eqGuardType P.depth t = TA) {x y:Operand}
  (s r:List (List UInt8)) (hs:s.length = fs.size) (hr:r.length = fs.size) (neg:Bool) :
  (do eqGuard (if neg then .neq else .eql) t x y (.agg (s.map fun x=>Value.string ⟨x.toArray⟩).toArray) (.agg (r.map fun x=>Value.string ⟨x.toArray⟩).toArray)
      binOp (if neg then .neq else .eql) t (.agg (s.map fun x=>Value.string ⟨x.toArray⟩).toArray) (.agg (r.map fun x=>Value.string ⟨x.toArray⟩).toArray):Sem Value).run P w = .ok (.bool (if neg then !(s == r) else s == r)) w:=by
 have hfo:P.fieldsOf t = fs:=by simp [Program.fieldsOf,ht]
 have hgd:∀ op,(eqGuard op t x y (.agg (s.map fun x=>Value.string ⟨x.toArray⟩).toArray) (.agg (r.map fun x=>Value.string ⟨x.toArray⟩).toArray)).run P w = .ok () w:=fun op=>by
  unfold eqGuard
  cases op <;> simp [hg,Result.andThen]
 have he:(Op.equal t (.agg (s.map fun x=>Value.string ⟨x.toArray⟩).toArray) (.agg (r.map fun x=>Value.string ⟨x.toArray⟩).toArray)).run P w = .ok (s == r) w:=by
  show (Op.equalIn (9999 + 1) t _ _).run P w = _
  rw [run_equalIn_struct w 9999 t _ _ (by rw [hfo];exact ht) hp,hfo]
  have:=LI (P:=P) (w:=w) 9998 s r fs.toList 0 hf (by simpa using hs.symm) (by simpa using hr.symm)
  simpa using this
 cases neg
 ·simp only [Sem.run_bind,hgd,Result.andThen,binOp,he,Sem.run_pure,IA,if_false]
 ·simp only [Sem.run_bind,hgd,Result.andThen,binOp,he,Sem.run_pure,if_true]
theorem XN (H:HR B0 M0 w h hd) {fn:Bool} {a:AV} {u:Value} {b:Bool} (hu:AVR w (iB M0 h hd) h hd a u) (hb:vE h fn a = PA b) :
  (fn = TA /\ ∃ p l c,u = .slice p l c /\ p.isNone = b) \/ (fn = SA /\ ((b = SA /\ u = .nilFunc) \/ (b = TA /\ ∃ f x y,u = .func f x y))):=by
 unfold vE at hb
 split at hb
 ·cases fn <;> simp at hb
  subst hb
  cases hu with | one _ _ hv=>cases hv with | c _ _ hc=>cases hc with | sl=>exact .inl ⟨rfl,_,_,_,rfl,rfl⟩ | emp=>exact .inl ⟨rfl,_,_,_,rfl,rfl⟩
 ·cases fn <;> simp at hb
  subst hb
  cases hu with | one _ _ hv=>cases hv with | slx=>exact .inl ⟨rfl,_,_,_,rfl,rfl⟩
 ·cases fn <;> simp at hb
  subst hb
  obtain rfl:=hu.val
  exact .inl ⟨rfl,_,_,_,rfl,rfl⟩
 ·rename_i b' ver
  cases fn
  ·cases hk:h[b']? with
   | none=>simp [hk] at hb
   | some k =>
    simp only [hk,IA,if_false] at hb
    split at hb
    ·rename_i hc
     simp only [BA] at hb
     subst hb
     have hv:=EL hu hk hc.1
     have hnn:=H.nn b' k hk
     obtain ⟨_,xs,ho,_⟩:=H.blk b' k hk
     rcases ho.2 with ⟨h0,_⟩ | ⟨g,cap,cur,hh,_⟩
     ·exact .inl ⟨rfl,_,_,_,hv.trans h0,by rw [hnn.2 h0];rfl⟩
     ·refine .inl ⟨rfl,_,_,_,hv.trans hh,?_⟩
      cases hq:k.nn with
      | true=>rfl
      | false=>have:=hnn.1 hq;rw [hh] at this;cases this
    ·cases hb
  ·simp at hb
 ·cases fn <;> simp at hb
  subst hb
  cases hu with | one _ _ hv=>cases hv with | fn=>exact .inr ⟨rfl,.inr ⟨rfl,_,_,_,rfl⟩⟩
 ·cases fn <;> simp at hb
  subst hb
  obtain rfl:=hu.val
  exact .inr ⟨rfl,.inl ⟨rfl,rfl⟩⟩
 ·cases hb
theorem eO {t e:TypeId} (ht:P.underlying t = PA (.slice e)) (p:Option Addr) (l c:Nat) (neg:Bool) {x y:Operand} :
  (do eqGuard (if neg then .neq else .eql) t x y (.slice p l c) (.slice QA 0 0);binOp (if neg then .neq else .eql) t (.slice p l c) (.slice QA 0 0):Sem Value).run P w = .ok (.bool (if neg then !p.isNone else p.isNone)) w:=by
 have hg:∀ op,(eqGuard op t x y (.slice p l c) (.slice QA 0 0)).run P w = .ok () w:=fun op=>KI (by simp) (by simp)
 have he:=run_equal_slice_nil (P:=P) w t e p l c ht
 cases neg
 ·simp only [Sem.run_bind,hg,Result.andThen,binOp,he,Sem.run_pure,IA,if_false]
 ·simp only [Sem.run_bind,hg,Result.andThen,binOp,he,Sem.run_pure,if_true]
theorem zP {t:TypeId} {ps rs:Array TypeId} {vr:Bool} (ht:P.underlying t = PA (.func ps rs vr)) {u:Value} {b:Bool} (hu:(b = SA /\ u = .nilFunc) \/ (b = TA /\ ∃ f x y,u = .func f x y)) (neg:Bool) {x y:Operand} :
  (do eqGuard (if neg then .neq else .eql) t x y u .nilFunc;binOp (if neg then .neq else .eql) t u .nilFunc:Sem Value).run P w = .ok (.bool (if neg then !b else b)) w:=by
 have hg:∀ op,(eqGuard op t x y u .nilFunc).run P w = .ok () w:=fun op=>KI (by simp) (by rcases hu with ⟨_,rfl⟩ | ⟨_,f,a,c,rfl⟩ <;> simp)
 have he:(Op.equal t u .nilFunc).run P w = .ok b w:=by
  show (Op.equalIn (9999 + 1) t u .nilFunc).run P w = _
  rw [Op.equalIn]
  rcases hu with ⟨rfl,rfl⟩ | ⟨rfl,f,a,c,rfl⟩ <;> simp only [Sem.run_bind,run_underlying ht,Result.andThen,Sem.run_pure]
 have hbin:∀ (op:BinOp),(op = .eql -> (binOp op t u .nilFunc).run P w = .ok (.bool b) w) /\ (op = .neq -> (binOp op t u .nilFunc).run P w = .ok (.bool (!b)) w):=fun op=>by
  rcases hu with ⟨rfl,rfl⟩ | ⟨rfl,f,a,c,rfl⟩ <;>
   exact ⟨fun e=>by subst e;simp only [binOp,Sem.run_bind,he,Result.andThen,Sem.run_pure],fun e=>by subst e;simp only [binOp,Sem.run_bind,he,Result.andThen,Sem.run_pure]⟩
 cases neg
 ·simp only [Sem.run_bind,hg,Result.andThen,(hbin _).1 rfl,IA,if_false]
 ·simp only [Sem.run_bind,hg,Result.andThen,(hbin _).2 rfl,if_true]
end Go.Am
namespace Go.Am
open Go.RowKit
variable {P:Program} {w w1 w2 w':World} {M0:Nat -> Prop} {h h1 h2 h':List Blk} {hd hd1 hd2 hd':Nat -> Value} {B0:Nat} {bad:Nat -> Prop}
theorem sI (off:Nat):∀ (l:List Value) (k:Nat) (cells:Array Value),off + k + l.length <= cells.size ->
  ((l.zipIdx k).foldl (fun cs (p:Value × Nat)=>cs.setIfInBounds (off + p.2) p.1) cells).toList = cells.toList.take (off + k) ++ l ++ cells.toList.drop (off + k + l.length)
 | [],k,cells,_=>by simp
 | v :: l,k,cells,hle=>by
  simp only [oA] at hle
  rw [List.zipIdx_cons,List.foldl_cons,sI off l (k + 1) _ (by simp;omega)]
  simp only [Array.toList_setIfInBounds]
  have h1:(cells.toList.set (off + k) v).take (off + (k + 1)) = cells.toList.take (off + k) ++ [v]:=by
   apply List.ext_getElem?
   intro i
   simp only [List.getElem?_take,List.getElem?_set,List.getElem?_append,List.length_take,Array.length_toList]
   rw [Nat.min_eq_left (by omega)]
   by_cases hi:i < off + k
   ·rw [if_pos (by omega),if_pos hi,if_neg (by omega),if_pos hi]
   ·rw [if_neg hi]
    by_cases he:i = off + k
    ·subst he;rw [if_pos (by omega),if_pos rfl,if_pos (by omega)];simp
    ·rw [if_neg (by omega),List.getElem?_eq_none (by simp;omega)]
  rw [h1,List.drop_set_of_lt (by omega)]
  simp [List.append_assoc,Nat.add_assoc,Nat.add_comm 1]
theorem fill_ok (place:Nat -> Option (Nat × Nat)):∀ (ps:List (Nat × Nat × AV)) (vs:List (Nat × Value)) (cs cs':List Cell) (us:Array Value),ps.length = vs.length ->
  (∀ (i:Nat) (p:Nat × Nat × AV) (v:Nat × Value),ps[i]? = PA p -> vs[i]? = PA v -> place v.1 = PA (p.1,p.2.1) /\ AVR w bad h hd p.2.2 v.2) -> PW (VR w bad h hd) cs us.toList ->
  ps.foldlM (fun cs p=>p.2.2.cells?.bind fun pc=>if pc.length = p.2.1 /\ p.1 + pc.length <= cs.length then PA (cs.take p.1 ++ pc ++ cs.drop (p.1 + pc.length)) else QA) cs = PA cs' ->
  ∃ us',Instr.fill place us vs = PA us' /\ PW (VR w bad h hd) cs' us'.toList
 | [],[],cs,cs',us,_,_,hp,hf=>by
  simp only [List.foldlM_nil,Option.pure_def,BA] at hf
  subst hf
  exact ⟨us,rfl,hp⟩
 | p :: ps,[],cs,cs',us,hl,_,_,_=>by simp at hl
 | [],v :: vs,cs,cs',us,hl,_,_,_=>by simp at hl
 | p :: ps,v :: vs,cs,cs',us,hl,hh,hp,hf=>by
  obtain ⟨hpl,hv⟩:=hh 0 p v rfl rfl
  rw [List.foldlM_cons] at hf
  cases hc:p.2.2.cells? with
  | none=>simp [hc] at hf
  | some pc =>
   simp only [hc,Option.bind_some,Option.bind_eq_bind] at hf
   split at hf
   ·rename_i hcond
    simp only [Option.bind_some] at hf
    have hpw:=hv.pw hc
    have hsz:v.2.cells.size = p.2.1:=by rw [<- hcond.1,hpw.1];simp
    have hus:us.size = cs.length:=by rw [hp.1];simp
    have hle:p.1 + 0 + v.2.cells.toList.length <= us.size:=by have:=hpw.1;simp only [Nat.add_zero];omega
    have hsp:=sI p.1 v.2.cells.toList 0 us hle
    obtain ⟨us',h1,h2⟩:=fill_ok place ps vs _ cs' ((v.2.cells.toList.zipIdx 0).foldl (fun cs (q:Value × Nat)=>cs.setIfInBounds (p.1 + q.2) q.1) us) (by simpa using hl) (fun i p v h1 h2=>hh (i + 1) p v (by simpa using h1) (by simpa using h2))
     (by
      rw [hsp]
      simp only [Nat.add_zero]
      rw [<- hpw.1]
      exact ((hp.take _).append hpw).append (hp.drop _)) hf
    refine ⟨us',?_,h2⟩
    obtain ⟨i,u⟩:=v
    simp only at hpl hsz hle h1 ⊢
    rw [Instr.fill,hpl]
    have hno:¬ ((u.cells.size ≠ p.2.1 || decide (p.1 + u.cells.size > us.size)) = SA):=by
     simp only [Nat.add_zero,Array.length_toList] at hle
     simp [hsz];omega
    simp only [hno,if_false,IA]
    rw [<- h1]
    congr 1
    rw [<- Array.foldl_toList]
    simp
   ·cases hf
theorem xQ:∀ (l:List Field),(∀ f ∈ l,(rE P f.type).isSome = SA) ->
  (l.mapM fun f=>(do pure (f.offset,<- sizeOf f.type):Sem (Nat × Nat))).run P w = .ok (l.map fun f=>(f.offset,(rE P f.type).getD 0)) w
 | [],_=>rfl
 | f :: l,hl=>by
  have h0:=hl f (by simp)
  have ih:=xQ l (fun f hf=>hl f (by simp [hf]))
  unfold rE at h0
  cases hi:P.info? f.type with
  | none=>simp [hi] at h0
  | some i =>
   rw [List.mapM_cons]
   simp only [Sem.run_bind,sizeOf,typeInfo,run_program,hi,Result.andThen,Sem.run_pure]
   simp only [Sem.run_bind,sizeOf,typeInfo,run_program,Result.andThen,Sem.run_pure] at ih
   rw [ih]
   simp [rE,hi]
theorem BK {t:TypeId} {zs:List Value} (hz:TG P t = PA zs):∃ z,(zeroValue t).run P w = .ok z w /\ z.cells.toList = zs:=by
 unfold TG at hz
 cases hi:P.info? t with
 | none=>simp [hi] at hz
 | some i =>
  cases hq:i.zero with
  | none=>simp [hi,hq] at hz
  | some z =>
   simp only [hi,hq,Option.bind_some,Option.map_some,BA] at hz
   exact ⟨z,by simp [zeroValue,typeInfo,hi,hq,Result.andThen],hz⟩
theorem lE {t:TypeId} {n:Nat} (hn:rE P t = PA n):(sizeOf t).run P w = .ok n w:=by
 unfold rE at hn
 cases hi:P.info? t with
 | none=>simp [hi] at hn
 | some i=>simp only [hi,Option.map_some,BA] at hn;simp [sizeOf,typeInfo,hi,hn,Result.andThen]
theorem aggT_run {t:TypeId} {b:Bool} (hn:aggT P t = PA b):(isAgg t).run P w = .ok b w:=by
 unfold aggT at hn
 cases hu:P.underlying t with
 | none=>simp [hu] at hn
 | some d =>
  simp only [hu,Option.map_some,BA] at hn
  subst hn
  cases d <;> simp [isAgg,run_underlying hu,Result.andThen]
theorem jN {t:TypeId} {fs:Array Field} {zs:List Value} (ht:P.underlying t = PA (.struct fs)) (hz:TG P t = PA zs) (h1:zs.all (·.oneCell') = SA) (hfs:fs.all (fun f=>(rE P f.type).isSome) = SA)
  {ps:List (Nat × Nat × AV)} {vs:List (Nat × Value)} (hl:ps.length = vs.length)
  (hh:∀ (i:Nat) (p:Nat × Nat × AV) (v:Nat × Value),ps[i]? = PA p -> vs[i]? = PA v -> (∃ f,fs[v.1]? = PA f /\ p.1 = f.offset /\ rE P f.type = PA p.2.1) /\ AVR w bad h hd p.2.2 v.2) {cs:List Cell}
  (hf:ps.foldlM (fun cs p=>p.2.2.cells?.bind fun pc=>if pc.length = p.2.1 /\ p.1 + pc.length <= cs.length then PA (cs.take p.1 ++ pc ++ cs.drop (p.1 + pc.length)) else QA) (zs.map fun v=>Cell.c (.val v)) = PA cs) :
  ∃ v,(Instr.build t vs.toArray).run P w = .ok v w /\ AVR w bad h hd (.agg cs) v:=by
 obtain ⟨z,hzr,hzc⟩:=BK (w:=w) hz
 have hm:(fs.mapM fun f=>(do pure (f.offset,<- sizeOf f.type):Sem (Nat × Nat))).run P w = .ok (fs.toList.map fun f=>(f.offset,(rE P f.type).getD 0)).toArray w:=by
  rw [Array.mapM_eq_mapM_toList]
  have:=xQ (P:=P) (w:=w) fs.toList (fun f hf=>by
   rw [Array.all_eq_true] at hfs
   obtain ⟨i,hi,rfl⟩:=List.getElem_of_mem hf
   simpa using hfs i (by simpa using hi))
  simp only [Sem.run_map,this,Result.andThen]
 obtain ⟨us',hfill,hpw⟩:=fill_ok (w:=w) (bad:=bad) (h:=h) (hd:=hd) (fun i=>(fs.toList.map fun f=>(f.offset,(rE P f.type).getD 0)).toArray[i]?) ps vs _ cs z.cells hl
  (fun i p v hp hv=>by
   obtain ⟨⟨f,hf,ho,hs⟩,ha⟩:=hh i p v hp hv
   refine ⟨?_,ha⟩
   have hf':fs.toList[v.1]? = PA f:=by simpa using hf
   simp [hf',ho,hs]) (by rw [hzc];exact TL h1) hf
 refine ⟨.agg us',?_,?_⟩
 ·simp only [Instr.build,Sem.run_bind,hzr,run_underlying ht,Result.andThen,hm,Sem.run_pure]
  rw [hfill]
  rfl
 ·have:=AVR.agg (w:=w) (bad:=bad) (h:=h) (hd:=hd) cs us'.toList hpw.1 hpw.2
  simpa using this
theorem fO {t e:TypeId} {n s:Nat} {zs:List Value} (ht:P.underlying t = PA (.array n e)) (hz:TG P t = PA zs) (h1:zs.all (·.oneCell') = SA) (hs:rE P e = PA s)
  {ps:List (Nat × Nat × AV)} {vs:List (Nat × Value)} (hl:ps.length = vs.length)
  (hh:∀ (i:Nat) (p:Nat × Nat × AV) (v:Nat × Value),ps[i]? = PA p -> vs[i]? = PA v -> (p.1 = v.1 * s /\ p.2.1 = s) /\ AVR w bad h hd p.2.2 v.2) {cs:List Cell}
  (hf:ps.foldlM (fun cs p=>p.2.2.cells?.bind fun pc=>if pc.length = p.2.1 /\ p.1 + pc.length <= cs.length then PA (cs.take p.1 ++ pc ++ cs.drop (p.1 + pc.length)) else QA) (zs.map fun v=>Cell.c (.val v)) = PA cs) :
  ∃ v,(Instr.build t vs.toArray).run P w = .ok v w /\ AVR w bad h hd (.agg cs) v:=by
 obtain ⟨z,hzr,hzc⟩:=BK (w:=w) hz
 obtain ⟨us',hfill,hpw⟩:=fill_ok (w:=w) (bad:=bad) (h:=h) (hd:=hd) (fun i=>PA (i * s,s)) ps vs _ cs z.cells hl
  (fun i p v hp hv=>by
   obtain ⟨⟨ho,hs⟩,ha⟩:=hh i p v hp hv
   exact ⟨by rw [ho,hs],ha⟩) (by rw [hzc];exact TL h1) hf
 refine ⟨.agg us',?_,?_⟩
 ·simp only [Instr.build,Sem.run_bind,hzr,run_underlying ht,Result.andThen,lE hs,Sem.run_pure]
  rw [hfill]
  rfl
 ·have:=AVR.agg (w:=w) (bad:=bad) (h:=h) (hd:=hd) cs us'.toList hpw.1 hpw.2
  simpa using this
theorem OQ {s:Nat}:∀ (rows:List (List Cell)) (vs:List Value) (k:Nat) (us:Array Value),rows.length = vs.length ->
  (∀ (i:Nat) (r:List Cell) (v:Value),rows[i]? = PA r -> vs[i]? = PA v -> r.length = s /\ PW (VR w bad h hd) r v.cells.toList) -> (k + rows.length) * s = us.size -> ∀ (pre:List Cell),PW (VR w bad h hd) pre (us.toList.take (k * s)) ->
  ∃ us',Instr.fill (fun i=>PA (i * s,s)) us ((vs.zipIdx k).map fun p=>(p.2,p.1)) = PA us' /\ PW (VR w bad h hd) (pre ++ rows.flatten) us'.toList /\ us'.size = us.size
 | [],[],k,us,_,_,hsz,pre,hp=>by
  refine ⟨us,rfl,?_,rfl⟩
  simp only [pA,Nat.add_zero] at hsz
  rw [List.take_of_length_le (by simp [hsz])] at hp
  simpa using hp
 | [],_ :: _,k,us,hl,_,_,_,_=>by simp at hl
 | _ :: _,[],k,us,hl,_,_,_,_=>by simp at hl
 | r :: rows,v :: vs,k,us,hl,hh,hsz,pre,hp=>by
  obtain ⟨hr,hpw⟩:=hh 0 r v rfl rfl
  have hvs:v.cells.size = s:=by have:=hpw.1;simp at this;omega
  simp only [oA] at hsz
  have hle:k * s + 0 + v.cells.toList.length <= us.size:=by
   have:(k + 1) * s <= (k + (rows.length + 1)) * s:=Nat.mul_le_mul_right _ (by omega)
   rw [Nat.add_mul,Nat.one_mul] at this
   simp only [Array.length_toList]
   omega
  have hsp:=sI (k * s) v.cells.toList 0 us hle
  have hsz2:((v.cells.toList.zipIdx 0).foldl (fun cs (q:Value × Nat)=>cs.setIfInBounds (k * s + q.2) q.1) us).size = us.size:=by
   have:=congrArg List.length hsp
   simp at this
   simp only [Array.length_toList] at hle
   omega
  have hpre:PW (VR w bad h hd) (pre ++ r) (((v.cells.toList.zipIdx 0).foldl (fun cs (q:Value × Nat)=>cs.setIfInBounds (k * s + q.2) q.1) us).toList.take ((k + 1) * s)):=by
   rw [hsp]
   simp only [Nat.add_zero]
   have hlp:(us.toList.take (k * s)).length = k * s:=by
    simp only [List.length_take,Array.length_toList];simp only [Array.length_toList] at hle;omega
   have e:(k + 1) * s = (us.toList.take (k * s) ++ v.cells.toList).length:=by
    rw [sA,hlp];simp [hvs,Nat.add_mul]
   rw [e,List.take_left]
   exact hp.append hpw
  obtain ⟨us',h1,h2,h3⟩:=OQ rows vs (k + 1) _ (by simpa using hl) (fun i r v h1 h2=>hh (i + 1) r v (by simpa using h1) (by simpa using h2)) (by rw [hsz2,<- hsz];congr 1;omega) (pre ++ r) hpre
  refine ⟨us',?_,by simpa [List.append_assoc] using h2,h3.trans hsz2⟩
  rw [List.zipIdx_cons,List.map_cons,Instr.fill]
  have hno:¬ ((v.cells.size ≠ s || decide (k * s + v.cells.size > us.size)) = SA):=by
   simp only [Nat.add_zero,Array.length_toList] at hle
   simp [hvs];omega
  simp only [hno,if_false,IA]
  rw [<- h1]
  congr 1
  rw [<- Array.foldl_toList]
  simp
theorem gv_mkrow (H:HR B0 M0 w h hd) (hM:∀ g,M0 g -> g < w.heap.size) (hB:B0 <= w.heap.size) {t e:TypeId} {s:Nat} {zs:List Value} (ht:P.underlying t = PA (.slice e)) (hs:rE P e = PA s) (hz:TG P e = PA zs) (hzs:zs.length = s) (hs0:0 < s)
  {rows:List (List Cell)} {vs:List Value} (hl:rows.length = vs.length) (hh:∀ (i:Nat) (r:List Cell) (v:Value),rows[i]? = PA r -> vs[i]? = PA v -> r.length = s /\ PW (VR w (iB M0 h hd) h hd) r v.cells.toList)
  (hlim:rows.length * s <= 16777216) (hmax:rows.length <= maxLen) {parts:Array (Nat × Value)} (hparts:parts.toList = (vs.zipIdx 0).map fun p=>(p.2,p.1)) :
  GV P B0 M0 w h hd (Instr.buildSlice t rows.length parts) (.one (.own h.length 0)) (h ++ [⟨0,e,s,rows,SA,SA⟩]):=by
 obtain ⟨z,hzr,hzc⟩:=BK (w:=w) hz
 have hzsz:z.cells.size = s:=by rw [<- hzs,<- hzc];simp
 have hinit:∃ us0:Array Value,us0.size = rows.length * s /\ ((if rows.length * s = 0 then pure #[] else do pure (<- zeroValue e).cells:Sem (Array Value)).run P w = .ok (if rows.length * s = 0 then #[] else z.cells) w) /\
   us0 = (Array.range (rows.length * s)).map ((if rows.length * s = 0 then #[] else z.cells)[· % (if rows.length * s = 0 then #[] else z.cells).size]!):=by
  refine ⟨_,?_,?_,rfl⟩
  ·simp
  ·by_cases h0:rows.length * s = 0 <;> simp [h0,hzr,Result.andThen]
 obtain ⟨us0,hus0,hz0,hus0e⟩:=hinit
 obtain ⟨us',hfill,hpw,hsz'⟩:=OQ (s:=s) rows vs 0 us0 hl hh (by rw [hus0];simp) [] (by simpa using PW.nil)
 have hrun:(Instr.buildSlice t rows.length parts).run P w = .ok (.slice (PA ⟨w.heap.size,0,QA⟩) rows.length rows.length) (w.alloc (.cells us' e)):=by
  have hlim':¬ (rows.length * s > 2 ^ 24):=by omega
  simp only [Instr.buildSlice,Sem.run_bind,run_underlying ht,Result.andThen,lE hs,hlim',if_false,Sem.run_pure]
  rw [hparts]
  by_cases h0:rows.length * s = 0
  ·rw [if_pos h0] at hus0e
   simp only [h0,if_true,Sem.run_bind,Sem.run_pure,Result.andThen] at hus0e ⊢
   rw [<- hus0e,hfill]
   simp [newRow,Result.andThen]
  ·rw [if_neg h0] at hus0e
   simp only [h0,if_false,Sem.run_bind,Sem.run_pure,hzr,Result.andThen]
   rw [<- hus0e,hfill]
   simp [newRow,Result.andThen]
 have hrow:∀ (i:Nat) (r:List Cell),rows[i]? = PA r -> r.length = s:=fun i r hi =>
  (hh i r (vs[i]'(by rw [<- hl];exact (dA.1 hi).1)) hi (aA _)).1
 refine gv_row H hM hrow (xs:=us'.toList) (by simpa using hpw) hrun (World.grownBy_alloc w _ QA) ?_ (fun g hg=>by simp [Value.ownBlock] at hg;omega) (by simp)
 have:=World.ownsRow_lit (base:=B0) (e:=e) (size:=s) w us' rows.length hB hmax (by rw [hsz',hus0])
 exact this
end Go.Am
namespace Go.Am
open Go.RowKit
variable {P:Program} {w w1 w2 w':World} {M0:Nat -> Prop} {h h1 h2 h':List Blk} {hd hd1 hd2 hd':Nat -> Value} {B0:Nat} {bad:Nat -> Prop}
def GN (P:Program) (B0:Nat) (M0:Nat -> Prop) (w:World) (h:List Blk) (hd:Nat -> Value) (s:Sem Next) (dst:Option Tmp) (av:AV) (h':List Blk):Prop :=
 ∃ nx w' hd' row,s.run P w = .ok nx w' /\ w.grownBy w' row /\ nT h hd row /\ HR B0 M0 w' h' hd' /\ Tr w (iB M0 h hd) h hd w' (iB M0 h' hd') h' hd' /\
  ((∃ v,nx = .value v /\ AVR w' (iB M0 h' hd') h' hd' av v) \/ (nx = .skip /\ dst = QA))
theorem GV.next {s:Sem Value} {dst:Option Tmp} {av:AV} (g:GV P B0 M0 w h hd s av h'):GN P B0 M0 w h hd (do pure (Next.value (<- s))) dst av h':=by
 obtain ⟨v,w',hd',row,h1,h2,h3,h4,h5,h6⟩:=g
 exact ⟨.value v,w',hd',row,by simp [h1,Result.andThen],h2,h3,h4,h5,.inl ⟨v,rfl,h6⟩⟩
theorem GU.next {s:Sem Unit} {dst:Option Tmp} {av:AV} (hd0:dst = QA) (g:GU P B0 M0 w h hd s h'):GN P B0 M0 w h hd (do s;pure Next.skip) dst av h':=by
 obtain ⟨w',hd',row,h1,h2,h3,h4,h5⟩:=g
 exact ⟨.skip,w',hd',row,by simp [h1,Result.andThen],h2,h3,h4,h5,.inr ⟨rfl,hd0⟩⟩
theorem GN.quiet (H:HR B0 M0 w h hd) {s:Sem Next} {dst:Option Tmp} {av:AV} {v:Value} (hr:s.run P w = .ok (.value v) w) (ha:AVR w (iB M0 h hd) h hd av v):GN P B0 M0 w h hd s dst av h :=
 ⟨.value v,w,hd,QA,hr,PC w QA,lD,H,.refl _ _ _ _,.inl ⟨v,rfl,ha⟩⟩
theorem constAV_ok (v:Value):AVR w bad h hd (yB v) v:=by
 unfold yB
 split
 ·rename_i cs
  split
  ·rename_i hall
   have:=AVR.agg (w:=w) (bad:=bad) (h:=h) (hd:=hd) (cs.toList.map fun v=>Cell.c (.val v)) cs.toList (by simp) (TL hall).2
   simpa using this
  ·exact .junk _
 ·exact .junk _
 ·rename_i s
  have:=bP (w:=w) (bad:=bad) (h:=h) (hd:=hd) (s:=s.data.toList)
  simpa using this
 ·rename_i h1 h2 h3
  refine YC ?_
  cases v <;> first | rfl | (exact absurd rfl (h1 _)) | (exact absurd rfl (h2 _))
def Sees (w:World) (bad:Nat -> Prop) (st:St) (hd:Nat -> Value) (ρ:Operand -> Value):Prop:=∀ x,AVR w bad st.h hd (st.ev x) (ρ x)
theorem bytes_run {es:List (List Cell)} {bs:List UInt8} (hb:eF es = PA bs) {news:List Value} (hp:PW (VR w bad h hd) es.flatten news) :
  ∃ ns:List Int,news = ns.map (Value.int .u8) /\ bs = ns.map fun n=>UInt8.ofNat n.toNat:=by
 induction es generalizing bs news with
 | nil =>
  simp only [eF,BA] at hb
  have:news = []:=List.eq_nil_of_length_eq_zero (by rw [<- hp.1];rfl)
  exact ⟨[],this,hb.symm⟩
 | cons r es ih =>
  unfold eF at hb
  split at hb
  ·cases ‹_ :: _ = []›
  ·rename_i n r' heq
   obtain ⟨rfl,rfl⟩:=List.cons.inj heq
   simp only [AA] at hb
   obtain ⟨t,ht,rfl⟩:=hb
   match news,hp with
   | [],hp=>exact absurd hp.1 (by simp)
   | u :: us,hp =>
    have h0:=hp.2 0 _ u rfl rfl
    have hu:u = .int .u8 n:=by cases h0 with | c _ _ hc=>cases hc;rfl
    obtain ⟨ns,h1,h2⟩:=ih ht ⟨by have:=hp.1;simpa using this,fun i c v hc hv=>hp.2 (i + 1) c v (by simpa using hc) (by simpa using hv)⟩
    exact ⟨n :: ns,by rw [hu,h1];rfl,by rw [h2];rfl⟩
  ·cases hb
theorem foldl_push (ns:List Int) (b:List UInt8):ns.foldl (fun r n=>r.push (UInt8.ofNat n.toNat)) (⟨b.toArray⟩:ByteArray) = ⟨(b ++ ns.map fun n=>UInt8.ofNat n.toNat).toArray⟩:=by
 induction ns generalizing b with
 | nil=>simp
 | cons n ns ih =>
  rw [List.foldl_cons]
  have:(⟨b.toArray⟩:ByteArray).push (UInt8.ofNat n.toNat) = ⟨(b ++ [UInt8.ofNat n.toNat]).toArray⟩:=by
   apply ByteArray.ext;simp [ByteArray.push]
  rw [this,ih]
  simp [List.append_assoc]
theorem lenAV_ok (H:HR B0 M0 w h hd) {str:Bool} {x:AV} {v:Value} {n:Nat} (hx:AVR w (iB M0 h hd) h hd x v) (hn:OF h str x = PA n) :
  (str = TA /\ ∃ a c,v = .slice a n c) \/ (str = SA /\ ∃ s:ByteArray,v = .string s /\ s.size = n):=by
 unfold OF at hn
 cases str
 ·simp only [IA,if_false] at hn
  refine .inl ⟨rfl,?_⟩
  split at hn
  ·rename_i b ver
   cases hk:h[b]? with
   | none=>simp [hk] at hn
   | some k =>
    simp only [hk] at hn
    split at hn
    ·rename_i hver
     simp only [BA] at hn
     subst hn
     obtain ⟨_,xs,ho,_⟩:=H.blk b k hk
     have hv:=EL hx hk hver.1
     rcases ho.2 with ⟨h0,h1⟩ | ⟨g,cap,cur,hh,_⟩
     ·rw [hv,h0,h1];exact ⟨_,_,rfl⟩
     ·rw [hv,hh];exact ⟨_,_,rfl⟩
    ·cases hn
  ·simp only [BA] at hn
   subst hn
   cases hx with | one _ _ hv=>cases hv with | c _ _ hc=>cases hc with | sl=>exact ⟨_,_,rfl⟩ | emp=>exact ⟨_,_,rfl⟩
  ·simp only [BA] at hn
   subst hn
   cases hx with | one _ _ hv=>cases hv with | slx=>exact ⟨_,_,rfl⟩
  ·cases hn
  ·simp only [BA] at hn
   subst hn
   obtain rfl:=hx.val
   exact ⟨_,_,rfl⟩
  ·cases hn
 ·simp only [if_true] at hn
  refine .inr ⟨rfl,?_⟩
  split at hn
  ·cases hn
  ·cases hn
  ·cases hn
  ·simp only [BA] at hn
   subst hn
   obtain rfl:=hx.strv
   exact ⟨_,rfl,eK _⟩
  ·cases hn
  ·cases hn
theorem QO {b ver i off:Nat} {v:Value} (hx:AVR w bad h hd (.one (.ptr b ver i off)) v) :
  (∃ blk g n cap,h[b]? = PA blk /\ hd b = .slice (PA ⟨g,0,QA⟩) n cap /\ v = .pointer (PA ⟨g,i * blk.e + off,QA⟩) /\ ver = blk.ver) \/ (∃ blk,h[b]? = PA blk /\ ver < blk.ver /\ v.oneCell' = SA):=by
 cases hx with
 | one _ _ hv =>
  cases hv with
  | ptr b i off blk g n cap hb hh=>exact .inl ⟨blk,g,n,cap,hb,hh,rfl,rfl⟩
  | ptrStale b ver i off blk v hb hlt h1=>exact .inr ⟨blk,hb,hlt,h1⟩
theorem pN {l:List CV} {n:Nat} {v:Value} (hx:AVR w bad h hd (.one (.iptr l)) v):∃ g off,v = .pointer (PA ⟨g,off,QA⟩) /\ AVR w bad h hd (.one (.iptr (l.drop n))) (.pointer (PA ⟨g,off + n,QA⟩)):=by
 cases hx with
 | one _ _ hv =>
  cases hv with
  | iptr _ g off f hbad hlt hc hv =>
   refine ⟨g,off,rfl,.one _ _ (.iptr _ g (off + n) (fun j=>f (n + j)) hbad hlt (fun j x hj=>?_) (fun j x hj=>?_))⟩
   ·rw [List.getElem?_drop] at hj
    have:=hc _ x hj
    rwa [show off + n + j = off + (n + j) by omega]
   ·rw [List.getElem?_drop] at hj
    exact hv _ x hj
theorem sl_elem {e:Nat} {l:List (List CV)} {g off len cap:Nat} (hx:CR w bad (.sl e l) (.slice (PA ⟨g,off,QA⟩) len cap)) {i:Nat} {r:List CV} (hi:l[i]? = PA r) :
  AVR w bad h hd (.one (.iptr r)) (.pointer (PA ⟨g,off + i * e,QA⟩)):=by
 obtain ⟨hbad,hlt,_,f,hc,hv⟩:=hx.lies_row hi
 exact .one _ _ (.iptr r g (off + i * e) f hbad hlt hc hv)
theorem NM {e:Nat} {l:List (List CV)} {v:Value} (hx:AVR w bad h hd (.one (.c (.sl e l))) v):(∃ g off cap,v = .slice (PA ⟨g,off,QA⟩) l.length cap /\ CR w bad (.sl e l) (.slice (PA ⟨g,off,QA⟩) l.length cap)) \/ (l = [] /\ ∃ a,v = .slice (PA a) 0 0):=by
 cases hx with
 | one _ _ hv =>
  cases hv with
  | c _ _ hc =>
   have hc':=hc
   cases hc with
   | sl _ _ g off cap f=>exact .inl ⟨g,off,cap,rfl,hc'⟩
   | emp _ a=>exact .inr ⟨rfl,a,rfl⟩
theorem slx_slice {e:Nat} {l:List (List CV)} {v:Value} (hx:AVR w bad h hd (.one (.slx e l)) v):∃ g off,v = .slice (PA ⟨g,off,QA⟩) l.length l.length /\ CR w bad (.sl e l) (.slice (PA ⟨g,off,QA⟩) l.length l.length):=by
 cases hx with
 | one _ _ hv =>
  cases hv with
  | slx _ _ g off hc=>exact ⟨g,off,rfl,hc⟩
theorem CR.len {e:Nat} {l:List (List CV)} {a:Option Addr} {n c:Nat} (hx:CR w bad (.sl e l) (.slice a n c)):n = l.length /\ n <= c:=by
 cases hx with
 | sl _ _ g off cap f hcap=>exact ⟨rfl,hcap⟩
 | emp=>exact ⟨rfl,EA _⟩
end Go.Am
namespace Go.Am
open Go.RowKit
variable {P:Program} {w w1 w2 w':World} {M0:Nat -> Prop} {h h1 h2 h':List Blk} {hd hd1 hd2 hd':Nat -> Value} {B0:Nat} {bad:Nat -> Prop}
theorem FL {st:St} {ρ:Operand -> Value} (hρ:Sees w bad st hd ρ) {e:Nat}:∀ (ps:List Operand) (rows:List (List Cell)),
  (ps.mapM fun p=>(st.ev p).cells?.bind fun cs=>if cs.length = e then PA cs else QA) = PA rows ->
  rows.length = ps.length /\ ∀ (i:Nat) (r:List Cell) (v:Value),rows[i]? = PA r -> (ps.map ρ)[i]? = PA v -> r.length = e /\ PW (VR w bad st.h hd) r v.cells.toList
 | [],rows,hm=>by
  simp only [List.mapM_nil,Option.pure_def,BA] at hm
  subst hm
  exact ⟨rfl,fun i r v hi=>by simp at hi⟩
 | p :: ps,rows,hm=>by
  rw [List.mapM_cons] at hm
  simp only [Option.bind_eq_bind,Option.pure_def] at hm
  cases hc:(st.ev p).cells? with
  | none=>simp [hc] at hm
  | some cs =>
   simp only [hc,Option.bind_some] at hm
   by_cases hl:cs.length = e
   ·rw [if_pos hl] at hm
    simp only [Option.bind_some] at hm
    cases hr:(ps.mapM fun p=>(st.ev p).cells?.bind fun cs=>if cs.length = e then PA cs else QA) with
    | none=>simp [hr] at hm
    | some rs =>
     simp only [hr,Option.bind_some,BA] at hm
     subst hm
     obtain ⟨h1,h2⟩:=FL hρ ps rs hr
     refine ⟨by simp [h1],fun i r v hi hv=>?_⟩
     cases i with
     | zero =>
      simp at hi hv
      subst hi;subst hv
      exact ⟨hl,(hρ p).pw hc⟩
     | succ i=>exact h2 i r v (by simpa using hi) (by simpa using hv)
   ·rw [if_neg hl] at hm
    simp at hm
theorem IS {st:St} {ρ:Operand -> Value} (hρ:Sees w bad st hd ρ):∀ (ps:List Operand) (cs:List Cell),
  (ps.mapM fun p=>match st.ev p with | .one c=>PA c | _=>QA) = PA cs -> cs.length = ps.length /\ ∀ (i:Nat) (c:Cell) (v:Value),cs[i]? = PA c -> (ps.map ρ)[i]? = PA v -> VR w bad st.h hd c v
 | [],cs,hm=>by
  simp only [List.mapM_nil,Option.pure_def,BA] at hm
  subst hm
  exact ⟨rfl,fun i r v hi=>by simp at hi⟩
 | p :: ps,cs,hm=>by
  rw [List.mapM_cons] at hm
  simp only [Option.bind_eq_bind,Option.pure_def] at hm
  cases hp:st.ev p with
  | one c =>
   simp only [hp,Option.bind_some] at hm
   cases hr:(ps.mapM fun p=>match st.ev p with | .one c=>PA c | _=>QA) with
   | none=>simp [hr] at hm
   | some rs =>
    simp only [hr,Option.bind_some,BA] at hm
    subst hm
    obtain ⟨h1,h2⟩:=IS hρ ps rs hr
    refine ⟨by simp [h1],fun i r v hi hv=>?_⟩
    cases i with
    | zero =>
     simp at hi hv
     subst hi;subst hv
     have:=hρ p
     rw [hp] at this
     cases this with | one _ _ hx=>exact hx
    | succ i=>exact h2 i r v (by simpa using hi) (by simpa using hv)
  | agg l=>simp [hp] at hm
  | tup l=>simp [hp] at hm
  | junk=>simp [hp] at hm
theorem KQ {α β γ:Type} (f:γ -> β -> Option γ) (g:α -> β):∀ (l:List α) (c:γ),(l.map g).foldlM f c = l.foldlM (fun c a=>f c (g a)) c
 | [],_=>rfl
 | a :: l,c=>by
  simp only [List.map_cons,List.foldlM_cons]
  congr 1
  funext d
  exact KQ f g l d
theorem yQ {α β:Type} {f:α -> Option β}:∀ (l:List α) (r:List β),l.mapM f = PA r -> r.length = l.length /\ ∀ (i:Nat) (a:α) (b:β),l[i]? = PA a -> r[i]? = PA b -> f a = PA b
 | [],r,h=>by
  simp only [List.mapM_nil,Option.pure_def,BA] at h
  subst h
  exact ⟨rfl,fun i a b ha=>by simp at ha⟩
 | a :: l,r,h=>by
  rw [List.mapM_cons] at h
  simp only [Option.bind_eq_bind,Option.pure_def] at h
  cases hf:f a with
  | none=>simp [hf] at h
  | some b =>
   cases hr:l.mapM f with
   | none=>simp [hf,hr] at h
   | some rs =>
    simp only [hf,hr,Option.bind_some,BA] at h
    subst h
    obtain ⟨h1,h2⟩:=yQ l rs hr
    refine ⟨by simp [h1],fun i x y hx hy=>?_⟩
    cases i with
    | zero=>simp at hx hy;subst hx;subst hy;exact hf
    | succ i=>exact h2 i x y (by simpa using hx) (by simpa using hy)
section ops
variable {st:St} {ρ:Operand -> Value} (H:HR B0 M0 w st.h hd) (hM:∀ g,M0 g -> g < w.heap.size) (hB:B0 <= w.heap.size) (hρ:Sees w (iB M0 st.h hd) st hd ρ)
include H hρ
theorem ok_build {t:TypeId} {parts:Array (Nat × Operand)} {zs:List Value} {ps:List (Nat × Nat × Operand)} {av:AV} {h':List Blk}
  (hc : cop P ⟨none, .build t parts, 0, "", #[], none⟩ = some (.build zs ps)) (hs : cstep st (.build zs ps) = some (av, h')) :
  GV P B0 M0 w st.h hd (Instr.build t (parts.map fun (i,x)=>(i,ρ x))) av h':=by
 simp only [cstep,AA,MA] at hs
 obtain ⟨cs,hf,rfl,rfl⟩:=hs
 have hf':(ps.map fun p=>(p.1,p.2.1,st.ev p.2.2)).foldlM (fun cs p=>p.2.2.cells?.bind fun pc=>if pc.length = p.2.1 /\ p.1 + pc.length <= cs.length then PA (cs.take p.1 ++ pc ++ cs.drop (p.1 + pc.length)) else QA) (zs.map fun v=>Cell.c (.val v)) = PA cs:=by
  rw [KQ];exact hf
 have e:(parts.map fun (x:Nat × Operand)=>(x.1,ρ x.2)) = (parts.toList.map fun (x:Nat × Operand)=>(x.1,ρ x.2)).toArray:=by apply Array.ext';simp
 simp only [cop] at hc
 split at hc
 ·rename_i fs zs' hu hz
  split at hc
  ·rename_i hall
   simp only [JA] at hall
   simp only [CA,BA,COp.build.injEq] at hc
   obtain ⟨ps',hm,rfl,rfl⟩:=hc
   obtain ⟨hl,hg⟩:=yQ _ _ hm
   obtain ⟨v,hr,ha⟩:=jN (w:=w) (bad:=iB M0 st.h hd) (h:=st.h) (hd:=hd) hu hz hall.1 hall.2 (ps:=ps'.map fun p=>(p.1,p.2.1,st.ev p.2.2)) (vs:=parts.toList.map fun x=>(x.1,ρ x.2)) (by simp [hl])
    (fun i p v hp hv=>by
     rw [List.getElem?_map] at hp hv
     cases hq:ps'[i]? with
     | none=>simp [hq] at hp
     | some q =>
      cases hx:parts.toList[i]? with
      | none=>simp [hx] at hv
      | some x =>
       simp [hq] at hp;simp [hx] at hv
       subst hp;subst hv
       have:=hg i x q hx hq
       simp only [CA,AA] at this
       obtain ⟨f,hf1,s,hs1,rfl⟩:=this
       exact ⟨⟨f,hf1,rfl,hs1⟩,hρ _⟩) hf'
   exact GV.quiet H (by rw [e];exact hr) ha
  ·cases hc
 ·rename_i n e' zs' hu hz
  split at hc
  ·rename_i hall
   simp only [AA,COp.build.injEq] at hc
   obtain ⟨s,hs1,rfl,rfl⟩:=hc
   obtain ⟨v,hr,ha⟩:=fO (w:=w) (bad:=iB M0 st.h hd) (h:=st.h) (hd:=hd) hu hz hall hs1 (ps:=(parts.toList.map fun p=>(p.1 * s,s,p.2)).map fun p=>(p.1,p.2.1,st.ev p.2.2)) (vs:=parts.toList.map fun x=>(x.1,ρ x.2)) (by simp)
    (fun i p v hp hv=>by
     rw [List.getElem?_map,List.getElem?_map] at hp
     rw [List.getElem?_map] at hv
     cases hx:parts.toList[i]? with
     | none=>simp [hx] at hv
     | some x =>
      simp [hx] at hp hv
      subst hp;subst hv
      exact ⟨⟨rfl,rfl⟩,hρ _⟩) hf'
   exact GV.quiet H (by rw [e];exact hr) ha
  ·cases hc
 ·cases hc
include hM hB
theorem ok_mkrow {t ty:TypeId} {len e:Nat} {parts:Array (Nat × Operand)} {ps:List Operand} {av:AV} {h':List Blk}
  (hc : cop P ⟨none, .buildSlice t len parts, 0, "", #[], none⟩ = some (.mkrow ty e ps)) (hs : cstep st (.mkrow ty e ps) = some (av, h')) :
  GV P B0 M0 w st.h hd (Instr.buildSlice t len (parts.map fun (i,x)=>(i,ρ x))) av h':=by
 simp only [cstep,AA,MA] at hs
 obtain ⟨rows,hm,rfl,rfl⟩:=hs
 obtain ⟨hl,hh⟩:=FL hρ ps rows hm
 simp only [cop] at hc
 split at hc
 ·rename_i e' hu
  split at hc
  ·rename_i s zs hsz hz
   split at hc
   ·rename_i hcond
    obtain ⟨hpi,hlim,hzl,hs0,hmax⟩:=hcond
    simp only [BA,COp.mkrow.injEq] at hc
    obtain ⟨rfl,rfl,rfl⟩:=hc
    have hlen:rows.length = len:=by
     rw [hl,eA]
     have:=congrArg List.length hpi
     simpa using this
    subst hlen
    refine gv_mkrow H hM hB hu hsz hz hzl hs0 (vs:=(parts.toList.map (·.2)).map ρ) (by simp [hl]) hh (by omega) hmax ?_
    apply List.ext_getElem?
    intro i
    simp only [Array.toList_map,List.getElem?_map,List.zipIdx_map,List.getElem?_zipIdx,Option.map_map]
    have hi:=congrArg (·[i]?) hpi
    simp only [List.getElem?_map] at hi
    cases hx:parts.toList[i]? with
    | none=>simp
    | some x =>
     rw [hx] at hi
     have hlt:i < rows.length:=by
      rw [hl,eA]
      exact (dA.1 hx).1
     rw [List.getElem?_range hlt] at hi
     simp at hi
     simp [hi]
   ·cases hc
  ·cases hc
 ·cases hc
end ops
end Go.Am
