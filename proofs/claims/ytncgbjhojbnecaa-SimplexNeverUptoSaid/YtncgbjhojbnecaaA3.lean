/- The abstract memory: which operations may change places; closing what is handed to a call. -/
import Derived.Test.YtncgbjhojbnecaaA2
set_option linter.unusedSimpArgs false
set_option linter.unusedVariables false
set_option linter.unnecessarySimpa false
namespace Go.Am
open Go.RowKit
variable {P:Program} {w w':World} {M0:Nat -> Prop} {h h1 h2 h':List Blk} {hd hd':Nat -> Value} {B0:Nat} {bad bad':Nat -> Prop}
def closeCV (h:List Blk):Nat -> Cell -> Option CV
 | _,.c x=>some x
 | _,.slx e l=>some (.sl e l)
 | _,.fn f []=>some (.val (.func (.func f) #[] #[]))
 | 0,_=>none
 | n + 1,.own b ver =>
  match h[b]? with
  | some k=>if ver = k.ver /\ 0 < k.e then
    (if k.nn then (k.els.mapM fun (r:List Cell)=>r.mapM (closeCV h n)).map (.sl k.e) else some (.val (.slice none 0 0))) else none
  | none=>none
 | _,_=>none
def closeCell (h:List Blk) (n:Nat):Cell -> Option Cell
 | .iptr l=>some (.iptr l)
 | .slx e l=>some (.slx e l)
 | .ptr b ver i off =>
  match h[b]? with
  | some k=>if ver = k.ver then (match k.els[i]? with | some r=>((r.drop off).mapM (closeCV h n)).map .iptr | none=>none) else none
  | none=>none
 | x=>(closeCV h n x).map .c
def closeFn (h:List Blk) (n:Nat):Cell -> Option Cell
 | .fn f caps=>(caps.mapM (closeCell h n)).map (.fn f)
 | x=>closeCell h n x
def closeAV (h:List Blk) (n:Nat):AV -> Option AV
 | .one x=>(closeFn h n x).map .one
 | .agg l=>(l.mapM (closeCell h n)).map .agg
 | _=>none
def usedCV (h:List Blk):Nat -> Cell -> List Nat
 | n + 1,.own b _=>b :: (match h[b]? with | some k=>if k.nn then (k.els.map fun (r:List Cell)=>(r.map (usedCV h n)).flatten).flatten else [] | none=>[])
 | _,_=>[]
def usedCell (h:List Blk) (n:Nat):Cell -> List Nat
 | .ptr b _ i off=>b :: (match h[b]? with | some k=>(match k.els[i]? with | some r=>((r.drop off).map (usedCV h n)).flatten | none=>[]) | none=>[])
 | x=>usedCV h n x
def usedFn (h:List Blk) (n:Nat):Cell -> List Nat
 | .fn _ caps=>(caps.map (usedCell h n)).flatten
 | x=>usedCell h n x
def usedAV (h:List Blk) (n:Nat):AV -> List Nat
 | .one x=>usedFn h n x
 | .agg l=>(l.map (usedCell h n)).flatten
 | _=>[]
def freeze (ids:List Nat) (h:List Blk):List Blk:=h.mapIdx fun i k=>if ids.contains i then { k with live:=false } else k
theorem freeze_get (ids:List Nat) (h:List Blk) (b:Nat):(freeze ids h)[b]? = (h[b]?).map fun k=>if ids.contains b then { k with live:=false } else k:=by
 simp [freeze]
theorem freeze_nil (h:List Blk):freeze [] h = h:=by
 apply List.ext_getElem?
 intro i
 rw [freeze_get]
 cases h[i]? <;> simp
theorem bad_freeze (ids:List Nat) {g:Nat} (hb:badOf M0 (freeze ids h) hd g):badOf M0 h hd g:=by
 rcases hb with hm | ⟨b,k,hk,hl,hg⟩
 ·exact .inl hm
 ·rw [freeze_get] at hk
  cases hq:h[b]? with
  | none=>simp [hq] at hk
  | some q =>
   simp only [hq,Option.map_some,Option.some.injEq] at hk
   split at hk
   ·subst hk;cases hl
   ·subst hk;exact .inr ⟨b,q,hq,hl,hg⟩
theorem Tr.freeze (ids:List Nat):Tr w (badOf M0 h hd) h hd w (badOf M0 (freeze ids h) hd) (freeze ids h) hd :=
 ⟨fun _ _ _=>rfl,fun g hg _ hb=>hg (bad_freeze ids hb),Nat.le_refl _,fun b k hk=>by
  rw [freeze_get,hk]
  refine ⟨_,rfl,.inl ?_⟩
  split <;> exact ⟨rfl,rfl,rfl⟩⟩
theorem HR.freeze (H:HR B0 M0 w h hd) (ids:List Nat):HR B0 M0 w (freeze ids h) hd:=by
 have inv:∀ (b:Nat) (k:Blk),(Am.freeze ids h)[b]? = some k -> ∃ k0,h[b]? = some k0 /\ k.ver = k0.ver /\ k.ty = k0.ty /\ k.e = k0.e /\ k.els = k0.els /\ k.nn = k0.nn /\ (k.live = true -> k0.live = true):=fun b k hk=>by
  rw [freeze_get] at hk
  cases hq:h[b]? with
  | none=>simp [hq] at hk
  | some q =>
   simp only [hq,Option.map_some,Option.some.injEq] at hk
   refine ⟨q,rfl,?_⟩
   split at hk <;> subst hk
   ·exact ⟨rfl,rfl,rfl,rfl,rfl,fun e=>by cases e⟩
   ·exact ⟨rfl,rfl,rfl,rfl,rfl,fun e=>e⟩
 refine ⟨fun b k hk=>?_,fun b k hk=>?_,fun b b' k k' hk hk' hl hne g hg=>?_⟩
 ·obtain ⟨k0,h0,h1,h2,h3,h4,h5,h6⟩:=inv b k hk
  obtain ⟨hr,xs,ho,hv⟩:=H.blk b k0 h0
  rw [h2,h3,h4]
  exact ⟨hr,xs,ho,fun i c u hc hu=>(hv i c u hc hu).tr (Tr.freeze ids)⟩
 ·obtain ⟨k0,h0,h1,h2,h3,h4,h5,h6⟩:=inv b k hk
  rw [h5];exact H.nn b k0 h0
 ·obtain ⟨k0,h0,_,_,_,_,_,h6⟩:=inv b k hk
  obtain ⟨k0',h0',_⟩:=inv b' k' hk'
  exact H.apart b b' k0 k0' h0 h0' (h6 hl) hne g hg
def hd00:Nat -> Value:=fun _=>undef
theorem mapM_pw {α β γ:Type} {f:α -> Option β} {R:α -> γ -> Prop} {S:β -> γ -> Prop}:∀ (l:List α) (l':List β) (vs:List γ),l.mapM f = some l' -> PW R l vs -> (∀ a b c,a ∈ l -> f a = some b -> R a c -> S b c) -> PW S l' vs
 | [],l',vs,hm,hp,_=>by
  simp only [List.mapM_nil,Option.pure_def,Option.some.injEq] at hm
  subst hm
  have:vs = []:=List.eq_nil_of_length_eq_zero hp.1.symm
  subst this
  exact .nil
 | a :: l,l',vs,hm,hp,hh=>by
  rw [List.mapM_cons] at hm
  simp only [Option.bind_eq_bind,Option.pure_def] at hm
  cases hf:f a with
  | none=>simp [hf] at hm
  | some b =>
   cases hr:l.mapM f with
   | none=>simp [hf,hr] at hm
   | some rs =>
    simp only [hf,hr,Option.bind_some,Option.some.injEq] at hm
    subst hm
    match vs,hp with
    | [],hp=>exact absurd hp.1 (by simp)
    | v :: vs,hp =>
     refine PW.cons (hh a b v (by simp) hf (hp.2 0 a v rfl rfl)) ?_
     exact mapM_pw l rs vs hr ⟨by have:=hp.1;simpa using this,fun i c u hc hu=>hp.2 (i + 1) c u (by simpa using hc) (by simpa using hu)⟩ (fun a b c ha=>hh a b c (by simp [ha]))
theorem CR.of_rows {e:Nat} {l:List (List CV)} {g off cap:Nat} {vs:List Value} (hbad:¬ bad g) (hlt:g < w.heap.size) (hcap:l.length <= cap) (hrow:∀ (i:Nat) (r:List CV),l[i]? = some r -> r.length = e)
  (hp:PW (CR w bad) l.flatten vs) (hc:∀ (j:Nat) (u:Value),vs[j]? = some u -> w.cell? ⟨g,off + j,none⟩ = some u):CR w bad (.sl e l) (.slice (some ⟨g,off,none⟩) l.length cap):=by
 have hlen:l.flatten.length = l.length * e:=flat_len l hrow
 have idx:∀ i j,i < l.length -> j < e -> i * e + j < vs.length:=fun i j hi hj=>by
  rw [<- hp.1,hlen]
  have:(i + 1) * e <= l.length * e:=Nat.mul_le_mul_right _ (by omega)
  rw [Nat.add_mul] at this
  omega
 refine .sl e l g off cap (fun i j=>vs.getD (i * e + j) undef) hcap hbad hlt hrow (fun i j hi hj=>?_) (fun i j r x hi hj=>?_)
 ·refine hc _ _ ?_
  rw [List.getElem?_eq_getElem (idx i j hi hj)]
  simp [List.getD,List.getElem?_eq_getElem (idx i j hi hj)]
 ·have hil:=(List.getElem?_eq_some_iff.1 hi).1
  have hjl:j < e:=by rw [<- hrow i r hi];exact (List.getElem?_eq_some_iff.1 hj).1
  have hf:=flat_get l i j r hrow hi hjl
  rw [hj] at hf
  refine hp.2 _ x _ hf ?_
  rw [List.getElem?_eq_getElem (idx i j hil hjl)]
  simp [List.getD,List.getElem?_eq_getElem (idx i j hil hjl)]
theorem mapM_flatten {α β:Type} {f:α -> Option β}:∀ (ls:List (List α)) (ls':List (List β)),(ls.mapM fun r=>r.mapM f) = some ls' -> ls.flatten.mapM f = some ls'.flatten /\ (ls'.length = ls.length /\ ∀ (i:Nat) (r:List α) (r':List β),ls[i]? = some r -> ls'[i]? = some r' -> r'.length = r.length)
 | [],ls',hm=>by
  simp only [List.mapM_nil,Option.pure_def,Option.some.injEq] at hm
  subst hm
  exact ⟨rfl,rfl,fun i r r' hi=>by simp at hi⟩
 | r :: ls,ls',hm=>by
  rw [List.mapM_cons] at hm
  simp only [Option.bind_eq_bind,Option.pure_def] at hm
  cases hr:r.mapM f with
  | none=>simp [hr] at hm
  | some r1 =>
   cases hl:(ls.mapM fun r=>r.mapM f) with
   | none=>simp [hr,hl] at hm
   | some l1 =>
    simp only [hr,hl,Option.bind_some,Option.some.injEq] at hm
    subst hm
    obtain ⟨h1,h2,h3⟩:=mapM_flatten ls l1 hl
    refine ⟨?_,by simp [h2],fun i q q' hi hi'=>?_⟩
    ·simp only [List.flatten_cons,List.mapM_append,hr,h1,Option.bind_eq_bind,Option.bind_some,Option.pure_def]
    ·cases i with
     | zero=>simp at hi hi';subst hi;subst hi';exact (mapM_get _ _ hr).1
     | succ i=>exact h3 i q q' (by simpa using hi) (by simpa using hi')
theorem closeCV_ok (H:HR B0 M0 w h hd) (hM0:∀ g,M0 g -> g < B0) (ids:List Nat):∀ (n:Nat) (x:Cell) (y:CV) (v:Value),closeCV h n x = some y -> (∀ b ∈ usedCV h n x,b ∈ ids) -> VR w (badOf M0 h hd) h hd x v -> CR w (badOf M0 (freeze ids h) hd) y v:=by
 intro n
 induction n with
 | zero =>
  intro x y v hc hu hx
  cases x with
  | c x =>
   simp only [closeCV,Option.some.injEq] at hc
   subst hc
   cases hx with | c _ _ hx=>exact hx.tr (Tr.freeze ids (w:=w)).blk (Tr.freeze ids (w:=w)).ok (Nat.le_refl _)
  | slx e l =>
   simp only [closeCV,Option.some.injEq] at hc
   subst hc
   cases hx with | slx _ _ g off hx=>exact hx.tr (Tr.freeze ids (w:=w)).blk (Tr.freeze ids (w:=w)).ok (Nat.le_refl _)
  | fn f caps =>
   cases caps with
   | nil =>
    simp only [closeCV,Option.some.injEq] at hc
    subst hc
    cases hx with
    | fn _ _ vs hl hv =>
     obtain rfl:vs = []:=List.eq_nil_of_length_eq_zero hl.symm
     exact .val _ rfl
   | cons c cs=>simp [closeCV] at hc
  | _=>simp [closeCV] at hc
 | succ n ih =>
  intro x y v hc hu hx
  cases x with
  | c x =>
   simp only [closeCV,Option.some.injEq] at hc
   subst hc
   cases hx with | c _ _ hx=>exact hx.tr (Tr.freeze ids (w:=w)).blk (Tr.freeze ids (w:=w)).ok (Nat.le_refl _)
  | slx e l =>
   simp only [closeCV,Option.some.injEq] at hc
   subst hc
   cases hx with | slx _ _ g off hx=>exact hx.tr (Tr.freeze ids (w:=w)).blk (Tr.freeze ids (w:=w)).ok (Nat.le_refl _)
  | own b ver =>
   simp only [closeCV] at hc
   cases hk:h[b]? with
   | none=>simp [hk] at hc
   | some k =>
    simp only [hk] at hc
    split at hc
    ·rename_i hver
     have hv:v = hd b:=own_hd (.one _ _ hx) hk hver.1
     subst hv
     split at hc
     ·rename_i hnn
      simp only [Option.map_eq_some_iff] at hc
      obtain ⟨l,hm,rfl⟩:=hc
      obtain ⟨hr,xs,ho,hpw⟩:=H.pw hk
      obtain ⟨hfl,hll,hrl⟩:=mapM_flatten _ _ hm
      simp only [usedCV,hk,hnn,if_true,List.mem_cons] at hu
      have hbid:b ∈ ids:=hu b (.inl rfl)
      have hP:PW (CR w (badOf M0 (freeze ids h) hd)) l.flatten xs:=mapM_pw _ _ _ hfl hpw (fun a y v ha hay hav=>ih a y v hay (fun c hc=>hu c (.inr (by
       obtain ⟨r,hr1,hr2⟩:=List.mem_flatten.1 ha
       refine List.mem_flatten.2 ⟨_,List.mem_map.2 ⟨r,hr1,rfl⟩,List.mem_flatten.2 ⟨_,List.mem_map.2 ⟨a,hr2,rfl⟩,hc⟩⟩))) hav)
      have hrow:∀ (i:Nat) (r:List CV),l[i]? = some r -> r.length = k.e:=fun i r hi=>by
       have hil:i < k.els.length:=by rw [<- hll];exact (List.getElem?_eq_some_iff.1 hi).1
       rw [hrl i _ r (List.getElem?_eq_getElem hil) hi]
       exact hr i _ (List.getElem?_eq_getElem hil)
      rcases ho.2 with ⟨h0,_⟩ | ⟨g,cap,cur,hh,hBg,hg,hnc,hcm,hcs,htake⟩
      ·have:=(H.nn b k hk).2 h0
       rw [hnn] at this;cases this
      ·rw [hh,<- hll]
       refine CR.of_rows ?_ (by rw [Array.getElem?_eq_some_iff] at hg;exact hg.1) (by rw [hll];exact hnc) hrow hP (fun j u hj=>?_)
       ·rintro (hm0 | ⟨b',k',hk',hl',hg'⟩)
        ·have:=hM0 g hm0;omega
        ·rw [freeze_get] at hk'
         cases hq:h[b']? with
         | none=>simp [hq] at hk'
         | some q =>
          simp only [hq,Option.map_some,Option.some.injEq] at hk'
          by_cases hin:ids.contains b' = true
          ·rw [if_pos hin] at hk';subst hk';cases hl'
          ·rw [if_neg hin] at hk'
           subst hk'
           have hne:b' ≠ b:=fun e=>hin (by subst e;simpa using hbid)
           exact H.apart b' b q k hq hk hl' hne g hg' (by rw [hh];rfl)
       ·have:=ho.cells (g:=g) (by rw [hh];rfl) j u hj
        rwa [addr_add] at this
     ·rename_i hnn
      simp only [Option.some.injEq] at hc
      subst hc
      have:k.nn = false:=by simpa using hnn
      rw [(H.nn b k hk).1 this]
      exact .val _ rfl
    ·cases hc
  | fn f caps =>
   cases caps with
   | nil =>
    simp only [closeCV,Option.some.injEq] at hc
    subst hc
    cases hx with
    | fn _ _ vs hl hv =>
     obtain rfl:vs = []:=List.eq_nil_of_length_eq_zero hl.symm
     exact .val _ rfl
   | cons c cs=>simp [closeCV] at hc
  | _=>simp [closeCV] at hc
theorem not_bad_frozen (H:HR B0 M0 w h hd) (hM0:∀ g,M0 g -> g < B0) {ids:List Nat} {b:Nat} {k:Blk} (hk:h[b]? = some k) (hb:b ∈ ids) {g:Nat} (hg:(hd b).ownBlock = some g):¬ badOf M0 (freeze ids h) hd g:=by
 rintro (hm0 | ⟨b',k',hk',hl',hg'⟩)
 ·have:=hM0 g hm0
  have:=(H.lt hk hg).1
  omega
 ·rw [freeze_get] at hk'
  cases hq:h[b']? with
  | none=>simp [hq] at hk'
  | some q =>
   simp only [hq,Option.map_some,Option.some.injEq] at hk'
   by_cases hin:ids.contains b' = true
   ·rw [if_pos hin] at hk';subst hk';cases hl'
   ·rw [if_neg hin] at hk'
    subst hk'
    have hne:b' ≠ b:=fun e=>hin (by subst e;simpa using hb)
    exact H.apart b' b q k hq hk hl' hne g hg' hg
theorem closeCell_ok (H:HR B0 M0 w h hd) (hM0:∀ g,M0 g -> g < B0) (ids:List Nat) (n:Nat) {x y:Cell} {v:Value} (hc:closeCell h n x = some y) (hu:∀ b ∈ usedCell h n x,b ∈ ids)
  (hx:VR w (badOf M0 h hd) h hd x v):VR w (badOf M0 (freeze ids h) hd) [] hd00 y v:=by
 have T:=Tr.freeze (w:=w) (M0:=M0) (h:=h) (hd:=hd) ids
 cases x with
 | iptr l =>
  simp only [closeCell,Option.some.injEq] at hc
  subst hc
  cases hx with
  | iptr _ g off f hbad hlt hc hv=>exact .iptr l g off f (T.ok g hbad hlt) hlt hc (fun j x hj=>(hv j x hj).tr T.blk T.ok T.size)
 | slx e l =>
  simp only [closeCell,Option.some.injEq] at hc
  subst hc
  cases hx with
  | slx _ _ g off hx=>exact .slx e l g off (hx.tr T.blk T.ok T.size)
 | ptr b ver i off =>
  simp only [closeCell] at hc
  cases hk:h[b]? with
  | none=>simp [hk] at hc
  | some k =>
   simp only [hk] at hc
   split at hc
   ·rename_i hver
    cases hi:k.els[i]? with
    | none=>simp [hi] at hc
    | some r =>
     simp only [hi,Option.map_eq_some_iff] at hc
     obtain ⟨l,hm,rfl⟩:=hc
     simp only [usedCell,hk,hi,List.mem_cons] at hu
     have hbid:b ∈ ids:=hu b (.inl rfl)
     rcases ptr_val (.one _ _ hx) with ⟨blk,g,n',cap,hb,hh,rfl,hbv⟩ | ⟨blk,hb,hlt,_⟩
     ·obtain rfl:blk = k:=by rw [hk] at hb;exact (Option.some.inj hb).symm
      have hl:=(H.lies hk hi hh).drop (n:=off)
      obtain ⟨vs,hpw,hcells⟩:=Lies.values _ _ hl
      have hP:PW (CR w (badOf M0 (freeze ids h) hd)) l vs:=mapM_pw _ _ _ hm hpw (fun a y v ha hay hav=>closeCV_ok H hM0 ids n a y v hay (fun c hc=>hu c (.inr (List.mem_flatten.2 ⟨_,List.mem_map.2 ⟨a,ha,rfl⟩,hc⟩))) hav)
      have hg:=(H.lt hk (g:=g) (by rw [hh];rfl)).2
      refine .iptr l g _ (fun j=>vs.getD j undef) (not_bad_frozen H hM0 hk hbid (by rw [hh];rfl)) hg (fun j x hj=>?_) (fun j x hj=>?_)
      ·have hlt:j < vs.length:=by rw [<- hP.1];exact (List.getElem?_eq_some_iff.1 hj).1
       refine hcells j _ ?_
       rw [List.getElem?_eq_getElem hlt]
       simp [List.getD,List.getElem?_eq_getElem hlt]
      ·have hlt:j < vs.length:=by rw [<- hP.1];exact (List.getElem?_eq_some_iff.1 hj).1
       refine hP.2 j x _ hj ?_
       rw [List.getElem?_eq_getElem hlt]
       simp [List.getD,List.getElem?_eq_getElem hlt]
     ·rw [hk] at hb;cases hb;omega
   ·cases hc
 | c x =>
  simp only [closeCell,Option.map_eq_some_iff] at hc
  obtain ⟨z,hz,rfl⟩:=hc
  exact .c _ _ (closeCV_ok H hM0 ids n _ z v hz (by simpa [usedCell] using hu) hx)
 | own b ver =>
  simp only [closeCell,Option.map_eq_some_iff] at hc
  obtain ⟨z,hz,rfl⟩:=hc
  exact .c _ _ (closeCV_ok H hM0 ids n _ z v hz (by simpa [usedCell] using hu) hx)
 | fn f caps =>
  simp only [closeCell,Option.map_eq_some_iff] at hc
  obtain ⟨z,hz,rfl⟩:=hc
  exact .c _ _ (closeCV_ok H hM0 ids n _ z v hz (by simpa [usedCell] using hu) hx)
 | mfn f x =>
  simp only [closeCell,Option.map_eq_some_iff] at hc
  obtain ⟨z,hz,rfl⟩:=hc
  cases n <;> simp [closeCV] at hz
 | junk =>
  simp only [closeCell,Option.map_eq_some_iff] at hc
  obtain ⟨z,hz,rfl⟩:=hc
  cases n <;> simp [closeCV] at hz
theorem closeFn_ok (H:HR B0 M0 w h hd) (hM0:∀ g,M0 g -> g < B0) (ids:List Nat) (n:Nat) {x y:Cell} {v:Value} (hc:closeFn h n x = some y) (hu:∀ b ∈ usedFn h n x,b ∈ ids)
  (hx:VR w (badOf M0 h hd) h hd x v):VR w (badOf M0 (freeze ids h) hd) [] hd00 y v:=by
 cases x with
 | fn f caps =>
  simp only [closeFn,Option.map_eq_some_iff] at hc
  obtain ⟨cs,hm,rfl⟩:=hc
  cases hx with
  | fn _ _ vs hl hv =>
   have hp:=mapM_pw (S:=VR w (badOf M0 (freeze ids h) hd) [] hd00) caps cs vs hm ⟨hl,hv⟩ (fun a y v ha hay hav=>closeCell_ok H hM0 ids n hay (fun c hc=>hu c (List.mem_flatten.2 ⟨_,List.mem_map.2 ⟨a,ha,rfl⟩,hc⟩)) hav)
   exact .fn f cs vs hp.1 hp.2
 | _=>simp only [closeFn] at hc;simp only [usedFn] at hu;exact closeCell_ok H hM0 ids n hc hu hx
theorem closeAV_ok (H:HR B0 M0 w h hd) (hM0:∀ g,M0 g -> g < B0) (ids:List Nat) (n:Nat) {x y:AV} {v:Value} (hc:closeAV h n x = some y) (hu:∀ b ∈ usedAV h n x,b ∈ ids)
  (hx:AVR w (badOf M0 h hd) h hd x v):AVR w (badOf M0 (freeze ids h) hd) [] hd00 y v:=by
 cases x with
 | one x =>
  simp only [closeAV,Option.map_eq_some_iff] at hc
  obtain ⟨z,hz,rfl⟩:=hc
  cases hx with | one _ _ hx=>exact .one _ _ (closeFn_ok H hM0 ids n hz hu hx)
 | agg l =>
  simp only [closeAV,Option.map_eq_some_iff] at hc
  obtain ⟨z,hz,rfl⟩:=hc
  cases hx with
  | agg _ vs hl hv =>
   have hp:=mapM_pw (S:=VR w (badOf M0 (freeze ids h) hd) [] hd00) l z vs hz ⟨hl,hv⟩ (fun a y v ha hay hav=>closeCell_ok H hM0 ids n hay (fun c hc=>hu c (List.mem_flatten.2 ⟨_,List.mem_map.2 ⟨a,ha,rfl⟩,hc⟩)) hav)
   exact .agg z vs hp.1 hp.2
 | _=>simp [closeAV] at hc
end Go.Am
namespace Go.Am
open Go.RowKit
variable {P:Program} {w w':World} {M0:Nat -> Prop} {h h1 h2 h':List Blk} {hd hd':Nat -> Value} {B0:Nat} {bad bad':Nat -> Prop}
class Glb where
 tab:Nat -> Option (List Value)
def GB [Glb] (M:Nat -> Prop) (B0:Nat) (w:World):Prop:=∀ g l,Glb.tab g = some l -> (g < B0 /\ ¬ M g) /\ ∀ (j:Nat) (v:Value),l[j]? = some v -> w.cell? ⟨g,j,none⟩ = some v
variable {GL:Glb}
theorem GB.mono {M:Nat -> Prop} {B0 B1:Nat} {w:World} (h:GB M B0 w) (hb:B0 <= B1):GB M B1 w:=fun g l hl=>⟨⟨Nat.lt_of_lt_of_le (h g l hl).1.1 hb,(h g l hl).1.2⟩,(h g l hl).2⟩
theorem GB.below {M:Nat -> Prop} {B0:Nat} {w w':World} (h:GB M B0 w) (hb:Below B0 w w'):GB M B0 w':=fun g l hl=>⟨(h g l hl).1,fun j v hj=>by
 rw [<- (h g l hl).2 j v hj]
 exact World.cell?_of_block (hb.block g (h g l hl).1.1)⟩
theorem GB.kept {M:Nat -> Prop} {B0:Nat} {w w':World} (h:GB M B0 w) (hb:∀ g,g < B0 -> w'.heap[g]? = w.heap[g]?):GB M B0 w':=fun g l hl=>⟨(h g l hl).1,fun j v hj=>by
 rw [<- (h g l hl).2 j v hj]
 exact World.cell?_of_block (hb g (h g l hl).1.1)⟩
theorem GB.wide {M0:Nat -> Prop} {B0:Nat} {w:World} {h:List Blk} {hd:Nat -> Value} (hG:GB M0 B0 w) (H:HR B0 M0 w h hd) (hB:B0 <= w.heap.size):GB (badOf M0 h hd) w.heap.size w:=fun g l hl=>by
 obtain ⟨⟨h1,h2⟩,h3⟩:=hG g l hl
 refine ⟨⟨by omega,?_⟩,h3⟩
 rintro (hm | ⟨b,k,hk,_,hg⟩)
 ·exact h2 hm
 ·have:=(H.lt hk hg).1
  omega
def callable (P:Program) (f:FuncId):Prop:=∀ args w,(callFunc f args).run P w = .ok (.enter f args) w
inductive Ret where
 | ret (av:AV)
 | fresh (ty e:Nat) (l:List (List CV)) (nn:Bool)
def RetR (w w':World) (M:Nat -> Prop):Ret -> Value -> Prop
 | .ret av,v=>AVR w' M [] hd00 av v
 | .fresh ty e l nn,v=>(∀ (i:Nat) (r:List CV),l[i]? = some r -> r.length = e) /\ (nn = false ↔ v = .slice none 0 0) /\
   ∃ xs:List Value,w'.ownsRow w.heap.size ty e v l.length xs /\ PW (CR w' (fun g=>M g \/ v.ownBlock = some g)) l.flatten xs
def PureC [Glb] (P:Program) (f:FuncId) (args:List AV) (r:Ret):Prop :=
 callable P f /\ ∀ (w:World) (M:Nat -> Prop) (vals:List Value),((∀ g,M g -> g < w.heap.size) /\ GB M w.heap.size w) -> PW (AVR w M [] hd00) args vals ->
  Calls P f vals.toArray w fun e w'=>∃ v,e = .returned v /\ Below w.heap.size w w' /\ RetR w w' M r v
def OpenC [Glb] (P:Program) (f:FuncId) (args:List AV) (h:List Blk) (r:AV) (h':List Blk):Prop :=
 callable P f /\ ∀ (B0:Nat) (M0:Nat -> Prop) (w:World) (hd:Nat -> Value) (vals:List Value),HR B0 M0 w h hd -> (∀ g,M0 g -> g < B0) -> (B0 <= w.heap.size /\ GB M0 B0 w) -> PW (AVR w (badOf M0 h hd) h hd) args vals ->
  Calls P f vals.toArray w fun e w'=>∃ v hd',e = .returned v /\ Below B0 w w' /\ HR B0 M0 w' h' hd' /\ Tr w (badOf M0 h hd) h hd w' (badOf M0 h' hd') h' hd' /\ AVR w' (badOf M0 h' hd') h' hd' r v
theorem VR.lift (hx:∀ {x:Cell} {v:Value},VR w bad [] hd00 x v -> True) {x:Cell} {v:Value} (h0:VR w bad [] hd00 x v) (h:List Blk) (hd:Nat -> Value):VR w bad h hd x v:=by
 induction h0 with
 | c x v hx=>exact .c x v hx
 | own b blk hb h1=>simp at hb
 | ownStale b ver blk v hb hv h1=>simp at hb
 | ptr b i off blk g n cap hb hh=>simp at hb
 | ptrStale b ver i off blk v hb hv h1=>simp at hb
 | iptr l g off f hbad hlt hc hv=>exact .iptr l g off f hbad hlt hc hv
 | fn f caps vs hl hv ih=>exact .fn f caps vs hl ih
 | mfn f c v hv ih=>exact .mfn f c v ih
 | slx e l g off hx=>exact .slx e l g off hx
 | junk v h1=>exact .junk v h1
theorem AVR.lift {x:AV} {v:Value} (h0:AVR w bad [] hd00 x v) (h:List Blk) (hd:Nat -> Value):AVR w bad h hd x v:=by
 induction h0 with
 | one x v hx=>exact .one x v (hx.lift (fun _=>trivial) h hd)
 | agg l vs hl hv=>exact .agg l vs hl (fun i c v h1 h2=>(hv i c v h1 h2).lift (fun _=>trivial) h hd)
 | tup l vs hl hv ih=>exact .tup l vs hl ih
 | junk v=>exact .junk v
def flatCV:CV -> Bool
 | .sl _ _=>false
 | _=>true
def flatCell:Cell -> Bool
 | .c x=>flatCV x
 | _=>false
def flat1:AV -> Bool
 | .one x=>flatCell x
 | .agg l=>l.all flatCell
 | _=>false
def flatAV:AV -> Bool
 | .tup l=>l.all flat1
 | x=>flat1 x
def flatRet:Ret -> Bool
 | .ret av=>flatAV av
 | _=>false
theorem CR.flat {x:CV} {v:Value} (hf:flatCV x = true) (hx:CR w bad x v):CR w' bad' x v:=by
 cases hx with
 | val v h=>exact .val v h
 | str s=>exact .str s
 | sl=>cases hf
 | emp=>cases hf
theorem VR.flat {x:Cell} {v:Value} (hf:flatCell x = true) (hx:VR w bad h hd x v):VR w' bad' h' hd' x v:=by
 cases hx with
 | c x v hx=>exact .c x v (hx.flat hf)
 | _=>cases hf
theorem AVR.flat1 {x:AV} {v:Value} (hf:Am.flat1 x = true) (hx:AVR w bad h hd x v):AVR w' bad' h' hd' x v:=by
 cases hx with
 | one x v hx=>exact .one x v (hx.flat hf)
 | agg l vs hl hv =>
  refine .agg l vs hl (fun i c v h1 h2=>(hv i c v h1 h2).flat ?_)
  simp only [Am.flat1,List.all_eq_true] at hf
  exact hf c (List.mem_of_getElem? h1)
 | _=>cases hf
theorem AVR.flat {x:AV} {v:Value} (hf:flatAV x = true) (hx:AVR w bad h hd x v):AVR w' bad' h' hd' x v:=by
 cases hx with
 | tup l vs hl hv =>
  refine .tup l vs hl (fun i c v h1 h2=>(hv i c v h1 h2).flat1 ?_)
  simp only [flatAV,List.all_eq_true] at hf
  exact hf c (List.mem_of_getElem? h1)
 | one x v hx=>exact AVR.flat1 (x:=.one x) hf (.one x v hx)
 | agg l vs hl hv=>exact AVR.flat1 (x:=.agg l) hf (.agg l vs hl hv)
 | junk v=>cases hf
structure Ctx [Glb] where
 B0:Nat
 w0:World
 M0:Nat -> Prop
 hM0:∀ g,M0 g -> g < B0
 hB0:B0 <= w0.heap.size
 h0:List Blk
 hd0:Nat -> Value
 keep:Nat -> Obj -> Prop
 hkeep:∀ k o,keep k o -> o.isCells = false
 rd:Option Nat
 hrd:∀ l,rd = some l -> ∃ r,keep l (.loop r)
 lo:Nat
 hG:GB M0 B0 w0
def markOf (D:Nat):Deferred:={ target:=.collected D,args:=#[] }
def putT (t:List AV) (dst:Option Tmp) (v:AV):List AV:=match dst with | some d=>t.set d v | none=>t
structure Rel (X:Ctx) (st:St) (hd:Nat -> Value) (a:Act) (w:World):Prop where
 below:Below X.B0 X.w0 w
 slots:PW (AVR w (badOf X.M0 st.h hd) st.h hd) st.t a.tmps.toList
 heap:HR X.B0 X.M0 w st.h hd
 tr:Tr X.w0 (badOf X.M0 X.h0 X.hd0) X.h0 X.hd0 w (badOf X.M0 st.h hd) st.h hd
 keeps:∀ k o,X.keep k o -> w.heap[k]? = some o
 big:X.lo <= w.heap.size
 marks:∃ Ds:List Nat,a.defers = Ds.map markOf /\ Ds.Nodup /\ ∀ D ∈ Ds,X.w0.heap.size <= D /\ w.heap[D]? = some (.deferred (some []))
variable {X:Ctx} {st:St} {a:Act}
theorem Rel.B0_le (r:Rel X st hd a w):X.B0 <= w.heap.size:=Nat.le_trans X.hB0 r.below.size
theorem Rel.gb (r:Rel X st hd a w):GB X.M0 X.B0 w:=X.hG.below r.below
def BW (X:Ctx) (w:World):Prop:=X.B0 <= w.heap.size /\ GB X.M0 X.B0 w
theorem Rel.bw (r:Rel X st hd a w):BW X w:=⟨r.B0_le,r.gb⟩
theorem Rel.gbad (r:Rel X st hd a w):GB (badOf X.M0 st.h hd) w.heap.size w:=r.gb.wide r.heap r.B0_le
theorem Rel.M0_lt (r:Rel X st hd a w):∀ g,X.M0 g -> g < w.heap.size:=fun g hg=>by have:=X.hM0 g hg;have:=r.B0_le;omega
theorem Rel.sees (r:Rel X st hd a w):Sees w (badOf X.M0 st.h hd) st hd a.eval:=fun x=>by
 cases x with
 | tmp t =>
  show AVR _ _ _ _ (st.t.getD t .junk) (a.tmps.getD t undef)
  cases hi:st.t[t]? with
  | none=>rw [List.getD,hi];exact .junk _
  | some av =>
   have hlt:t < a.tmps.toList.length:=by rw [<- r.slots.1];exact (List.getElem?_eq_some_iff.1 hi).1
   have:=r.slots.2 t av _ hi (List.getElem?_eq_getElem hlt)
   simp only [Array.length_toList] at hlt
   have e:a.tmps.getD t undef = a.tmps.toList[t]:=by simp [Array.getD,hlt]
   rw [List.getD,hi,e]
   exact this
 | const v=>exact constAV_ok v
 | global g=>exact .junk _
 | func f=>exact .one _ _ (.fn f [] [] rfl (fun i c v h=>by simp at h))
theorem PW.set {α β:Type} {R:α -> β -> Prop} {l:List α} {vs:List β} (hp:PW R l vs) (d:Nat) {x:α} {v:β} (h:R x v):PW R (l.set d x) (vs.set d v) :=
 ⟨by simp [hp.1],fun i c u hc hu=>by
  rw [List.getElem?_set] at hc hu
  by_cases e:d = i
  ·subst e
   by_cases hlt:d < l.length
   ·rw [if_pos rfl,if_pos hlt] at hc
    rw [if_pos rfl,if_pos (by rw [<- hp.1];exact hlt)] at hu
    cases hc;cases hu;exact h
   ·rw [if_pos rfl,if_neg hlt] at hc;cases hc
  ·rw [if_neg e] at hc hu
   exact hp.2 i c u hc hu⟩
theorem notCells_of_bad (H:HR B0 M0 w h hd) {b:Nat} {k:Blk} (hk:h[b]? = some k) {g:Nat} (hg:(hd b).ownBlock = some g):∃ cs t,w.heap[g]? = some (.cells cs t (0,0)):=by
 obtain ⟨_,xs,ho,_⟩:=H.blk b k hk
 rcases ho.2 with ⟨h0,_⟩ | ⟨g',cap,cur,hh,_,hc,_⟩
 ·rw [h0] at hg;simp [Value.ownBlock] at hg
 ·rw [hh] at hg;simp [Value.ownBlock] at hg;subst hg;exact ⟨cur,k.ty,hc⟩
theorem Rel.step (r:Rel X st hd a w) {row:Option Nat} {h':List Blk} {hd':Nat -> Value} {dst:Option Tmp} {av:AV} {v:Value}
  (hg:w.grownBy w' row) (hr:RowOk st.h hd row) (H':HR X.B0 X.M0 w' h' hd') (T:Tr w (badOf X.M0 st.h hd) st.h hd w' (badOf X.M0 h' hd') h' hd') (hv:AVR w' (badOf X.M0 h' hd') h' hd' av v) :
  Rel X ⟨putT st.t dst av,h'⟩ hd' (a.put dst v) w':=by
 have hbelow:Below X.B0 X.w0 w':=r.below.grown hg r.B0_le (fun k e=>by
  obtain ⟨b,kb,hk,_,ho⟩:=hr k e
  exact (r.heap.lt hk ho).1)
 have other:∀ (i:Nat) (o:Obj),w.heap[i]? = some o -> o.isCells = false -> w'.heap[i]? = some o:=fun i o hi ho=>by
  rw [hg.block i (by rw [Array.getElem?_eq_some_iff] at hi;exact hi.1) (fun e=>by
   obtain ⟨b,kb,hk,_,hb⟩:=hr i e.symm
   obtain ⟨cs,t,hc⟩:=notCells_of_bad r.heap hk hb
   rw [hi] at hc
   cases hc;cases ho)]
  exact hi
 refine ⟨hbelow,?_,H',r.tr.trans T,fun k o hp=>other k o (r.keeps k o hp) (X.hkeep k o hp),Nat.le_trans r.big hg.size,?_⟩
 ·have hs:PW (AVR w' (badOf X.M0 h' hd') h' hd') st.t a.tmps.toList:=r.slots.mono (fun c v hc=>hc.tr T)
  cases dst with
  | none=>exact hs
  | some d =>
   show PW _ (st.t.set d av) (a.tmps.setIfInBounds d v).toList
   rw [Array.toList_setIfInBounds]
   exact hs.set d hv
 ·obtain ⟨Ds,hD,hN,hDs⟩:=r.marks
  refine ⟨Ds,?_,hN,fun D hd=>⟨(hDs D hd).1,other D _ (hDs D hd).2 rfl⟩⟩
  cases dst <;> exact hD
structure CO where
 dst:Option Tmp
 guard:Option (Tmp × Bool)
 op:COp
def guardWant (st:St) (t:Tmp) (want:Bool):Option Bool :=
 match st.t[t]? with
 | some (.one (.c (.val (.bool b))))=>some (b == want)
 | some (.tup [])=>some false
 | _=>none
def fnVal:Value -> Option FuncId
 | .func (.func g) first caps=>if first = #[] /\ caps = #[] then some g else none
 | _=>none
theorem fnVal_is {v:Value} {g:FuncId} (h:fnVal v = some g):v = .func (.func g) #[] #[]:=by
 cases v with
 | func f first caps =>
  cases f with
  | func g' =>
   simp only [fnVal] at h
   split at h
   ·rename_i e
    rw [e.1,e.2]
    cases h
    rfl
   ·cases h
  | _=>cases h
 | _=>cases h
def callArgs (st:St) (f:Operand) (args:List Operand):Option (FuncId × List AV) :=
 match st.ev f with
 | .one (.fn g caps)=>some (g,evs st args ++ caps.map .one)
 | .one (.mfn g c)=>some (g,.one c :: evs st args)
 | .one (.c (.val v))=>(fnVal v).map fun g=>(g,evs st args)
 | _=>none
def pureEnd (st:St) (dst:Option Tmp) (ids:List Nat):Ret -> St
 | .ret av=>if flatAV av then ⟨putT st.t dst av,st.h⟩ else ⟨putT st.t dst av,freeze ids st.h⟩
 | .fresh ty e l nn=>⟨putT st.t dst (.one (.own st.h.length 0)),freeze ids st.h ++ [⟨0,ty,e,l.map (·.map .c),true,nn⟩]⟩
def CallS [Glb] (P:Program) (st:St) (dst:Option Tmp) (g:FuncId) (as:List AV) (st':St):Prop :=
 (∃ cas r,as.mapM (closeAV st.h 3) = some cas /\ PureC P g cas r /\ st' = pureEnd st dst (as.map (usedAV st.h 3)).flatten r) \/
 (∃ r h',OpenC P g as st.h r h' /\ st' = ⟨putT st.t dst r,h'⟩)
def OpS [Glb] (P:Program) (st:St) (dst:Option Tmp):COp -> St -> Prop
 | .callf f args,st'=>∃ g as,callArgs st f args = some (g,as) /\ CallS P st dst g as st'
 | op,st'=>∃ av h',cstep st op = some (av,h') /\ st' = ⟨putT st.t dst av,h'⟩
def OStep [Glb] (P:Program) (o:CO) (st st':St):Prop :=
 match o.guard with
 | none=>OpS P st o.dst o.op st'
 | some (t,want)=>∃ g,guardWant st t want = some g /\ (g = true -> OpS P st o.dst o.op st') /\ (g = false -> st' = ⟨putT st.t o.dst (.tup []),st.h⟩)
def compiled (P:Program) (ops:Array Oper) (o:Oper) (co:CO):Prop :=
 co.dst = o.dst /\ cop P o = some co.op /\ (match o.guard with
  | none=>co.guard = none
  | some (j,want)=>∃ t,(ops[j]?).bind (·.dst) = some t /\ co.guard = some (t,want))
def Wd (r:Option Nat):Fence:={ Fence.wide with round:=r }
theorem callsIn_wd {r:Option Nat} {n:Nat} {f:FuncId} {args:Array Value} {R:Ending -> World -> Prop} (hc:Calls P f args w R):CallsIn (Wd r) n P f args w R:=by
 have h0:CallsIn Fence.wide n P f args w R:=callsIn_wide.2 hc
 cases r with
 | none=>exact h0
 | some l=>exact CallsIn.inRound l h0
theorem cop_notDefer {o:Oper} {c:COp} (hc:cop P o = some c):∀ d,o.op ≠ .defer d:=fun d e=>by
 simp [cop,e] at hc
theorem below_grown (hb:Below w.heap.size w w'):w.grownBy w' none:=⟨hb.os,hb.tape,hb.output,hb.size,fun k hk _=>hb.block k hk⟩
end Go.Am
namespace Go.Am
open Go.RowKit
variable {GL:Glb}
variable {P:Program} {w w':World} {M0:Nat -> Prop} {h h1 h2 h':List Blk} {hd hd':Nat -> Value} {B0:Nat} {bad bad':Nat -> Prop} {X:Ctx} {st st':St} {a:Act}
theorem mapM_close {h:List Blk} {n:Nat} (H:HR B0 M0 w h hd) (hM0:∀ g,M0 g -> g < B0) {as cas:List AV} {vals:List Value} (hm:as.mapM (closeAV h n) = some cas) (hp:PW (AVR w (badOf M0 h hd) h hd) as vals) (ids:List Nat)
  (hu:∀ b ∈ (as.map (usedAV h n)).flatten,b ∈ ids):PW (AVR w (badOf M0 (freeze ids h) hd) [] hd00) cas vals :=
 mapM_pw as cas vals hm hp (fun a y v ha hay hav=>closeAV_ok H hM0 ids n hay (fun b hb=>hu b (List.mem_flatten.2 ⟨_,List.mem_map.2 ⟨a,ha,rfl⟩,hb⟩)) hav)
theorem call_ok (r:Rel X st hd a w) {dst:Option Tmp} {g:FuncId} {as:List AV} {vals:List Value} (hp:PW (AVR w (badOf X.M0 st.h hd) st.h hd) as vals) (hc:CallS P st dst g as st') :
  callable P g /\ Calls P g vals.toArray w fun e w'=>∃ v hd',e = .returned v /\ Rel X st' hd' (a.put dst v) w':=by
 rcases hc with ⟨cas,ret,hm,⟨hcall,hpure⟩,rfl⟩ | ⟨ret,h',⟨hcall,hopen⟩,rfl⟩
 ·obtain ⟨ids,hids⟩:∃ ids,ids = (as.map (usedAV st.h 3)).flatten:=⟨_,rfl⟩
  rw [<- hids]
  have hcl:=mapM_close r.heap X.hM0 hm hp ids (fun b hb=>by rw [hids];exact hb)
  have hbadlt:∀ g,badOf X.M0 (freeze ids st.h) hd g -> g < w.heap.size:=fun g hg=>by
   rcases bad_freeze ids hg with hm | ⟨b,k,hk,_,hb⟩
   ·exact r.M0_lt g hm
   ·exact (r.heap.lt hk hb).2
  refine ⟨hcall,(hpure w _ vals ⟨hbadlt,r.gb.wide (r.heap.freeze ids) r.B0_le⟩ hcl).mono ?_⟩
  rintro e w' ⟨v,rfl,hbel,hret⟩
  have hg:=below_grown hbel
  cases ret with
  | ret av =>
   simp only [pureEnd]
   by_cases hf:flatAV av = true
   ·rw [if_pos hf]
    obtain ⟨H',T⟩:=r.heap.same hg
    exact ⟨v,hd,rfl,r.step hg rowOk_none H' T (AVR.flat hf hret)⟩
   ·rw [if_neg hf]
    have H1:=r.heap.freeze ids
    obtain ⟨H',T⟩:=H1.same hg
    exact ⟨v,hd,rfl,r.step hg rowOk_none H' ((Tr.freeze ids).trans T) (AVR.lift hret _ _)⟩
  | fresh ty e l nn =>
   simp only [pureEnd]
   obtain ⟨hrow,hnn,xs,hown,hpw⟩:=hret
   have H1:=r.heap.freeze ids
   have hlenf:(freeze ids st.h).length = st.h.length:=by simp [freeze]
   have hB:=r.B0_le
   have hrowm:∀ (i:Nat) (q:List Cell),(l.map (·.map Cell.c))[i]? = some q -> q.length = e:=fun i q hi=>by
    rw [List.getElem?_map] at hi
    cases hl:l[i]? with
    | none=>simp [hl] at hi
    | some q'=>simp [hl] at hi;subst hi;simpa using hrow i q' hl
   have hflat:(l.map (·.map Cell.c)).flatten = l.flatten.map Cell.c:=by rw [List.map_flatten]
   have hown':w'.ownsRow X.B0 ty e v (l.map (·.map Cell.c)).length xs:=by
    rw [List.length_map]
    refine ⟨hown.1,?_⟩
    rcases hown.2 with h0 | ⟨g,cap,cur,hv,hge,rest⟩
    ·exact .inl h0
    ·exact .inr ⟨g,cap,cur,hv,by omega,rest⟩
   have hfr:∀ g,v.ownBlock = some g -> w.heap.size <= g:=fun g hg=>(hown.lt g hg).1
   have key:=H1.new2 hg (k:=⟨0,ty,e,l.map (·.map .c),true,nn⟩) (v:=v) (xs:=xs) hrowm hown' (fun i c u hc hu T=>by
    rw [hflat,List.getElem?_map] at hc
    cases hl:l.flatten[i]? with
    | none=>simp [hl] at hc
    | some x =>
     simp [hl] at hc
     subst hc
     refine .c _ _ ((hpw.2 i x u hl hu).tr (fun _ _ _=>rfl) (fun g hng hlt hbad=>hng ?_) (Nat.le_refl _))
     rcases hbad with hm0 | ⟨b,kb,hkb,hlv,hgb⟩
     ·exact .inl (.inl hm0)
     ·by_cases hbl:b < (freeze ids st.h).length
      ·rw [List.getElem?_append_left hbl] at hkb
       rw [upd_other hd v (by omega)] at hgb
       exact .inl (.inr ⟨b,kb,hkb,hlv,hgb⟩)
      ·rw [List.getElem?_append_right (by omega)] at hkb
       have hb0:b = (freeze ids st.h).length:=by
        rcases Nat.eq_zero_or_pos (b - (freeze ids st.h).length) with e | e
        ·omega
        ·rw [List.getElem?_eq_none (by simp;omega)] at hkb;cases hkb
       rw [hb0,upd_same] at hgb
       exact .inr hgb) hfr (fun g hm=>r.M0_lt g hm) hnn
   refine ⟨v,_,rfl,r.step hg rowOk_none key.1 ((Tr.freeze ids).trans key.2) (.one _ _ ?_)⟩
   have:=VR.own (w:=w') (bad:=badOf X.M0 (freeze ids st.h ++ [⟨0,ty,e,l.map (·.map .c),true,nn⟩]) (upd hd (freeze ids st.h).length v)) (h:=freeze ids st.h ++ [⟨0,ty,e,l.map (·.map .c),true,nn⟩])
    (hd:=upd hd (freeze ids st.h).length v) st.h.length ⟨0,ty,e,l.map (·.map .c),true,nn⟩ (by rw [<- hlenf];simp) (by rw [<- hlenf,upd_same];exact ownsRow_one hown)
   rw [<- hlenf,upd_same] at this
   rw [<- hlenf]
   exact this
 ·refine ⟨hcall,(hopen X.B0 X.M0 w hd vals r.heap X.hM0 r.bw hp).mono ?_⟩
  rintro e w' ⟨v,hd',rfl,hbel,H',T,hv⟩
  refine ⟨v,hd',rfl,?_⟩
  have other:∀ (i:Nat) (o:Obj),w.heap[i]? = some o -> o.isCells = false -> w'.heap[i]? = some o:=fun i o hi ho=>by
   have hilt:i < w.heap.size:=by rw [Array.getElem?_eq_some_iff] at hi;exact hi.1
   by_cases hlt:i < X.B0
   ·rw [hbel.block i hlt];exact hi
   ·rw [T.blk i (fun hb=>by
     rcases hb with hm | ⟨b,k,hk,_,hg⟩
     ·have:=X.hM0 i hm;omega
     ·obtain ⟨cs,t,hc⟩:=notCells_of_bad r.heap hk hg
      rw [hi] at hc
      cases hc;cases ho) hilt]
    exact hi
  refine ⟨r.below.trans hbel,?_,H',r.tr.trans T,fun k o hp=>other k o (r.keeps k o hp) (X.hkeep k o hp),Nat.le_trans r.big T.size,?_⟩
  ·have hs:PW (AVR w' (badOf X.M0 h' hd') h' hd') st.t a.tmps.toList:=r.slots.mono (fun c v hc=>hc.tr T)
   cases dst with
   | none=>exact hs
   | some d =>
    show PW _ (st.t.set d ret) (a.tmps.setIfInBounds d v).toList
    rw [Array.toList_setIfInBounds]
    exact hs.set d hv
  ·obtain ⟨Ds,hD,hN,hDs⟩:=r.marks
   refine ⟨Ds,?_,hN,fun D hd=>⟨(hDs D hd).1,other D _ (hDs D hd).2 rfl⟩⟩
   cases dst <;> exact hD
theorem evs_pw {ρ:Operand -> Value} (hρ:Sees w bad st hd ρ):∀ (xs:List Operand),PW (AVR w bad st.h hd) (evs st xs) (xs.map ρ)
 | []=>.nil
 | x :: xs=>PW.cons (hρ x) (evs_pw hρ xs)
theorem cop_callf {o:Oper} {f:Operand} {args:List Operand} (hc:cop P o = some (.callf f args)):∃ cc:Call,o.op = .call cc /\ cc.callee = .value f /\ cc.args.toList = args:=by
 obtain ⟨dst,op,type,pos,after,guard⟩:=o
 cases op with
 | call cc =>
  obtain ⟨callee,cargs,ct⟩:=cc
  cases callee with
  | value f' =>
   simp only [cop,Option.some.injEq,COp.callf.injEq] at hc
   obtain ⟨rfl,rfl⟩:=hc
   exact ⟨_,rfl,rfl,rfl⟩
  | invoke r m=>simp [cop] at hc
  | builtin b =>
   exfalso
   cases b <;> simp only [cop,reduceCtorEq] at hc <;> (repeat' split at hc) <;> simp [Option.bind_eq_some_iff,Option.map_eq_some_iff] at hc
 | makeFunc fn first caps =>
  exfalso
  cases fn <;> simp only [cop,reduceCtorEq] at hc
  repeat' split at hc
  all_goals simp at hc
 | field s x i =>
  exfalso
  simp only [cop] at hc
  split at hc
  ·simp only [Option.bind_eq_some_iff] at hc
   obtain ⟨fd,_,hc⟩:=hc
   repeat' split at hc
   all_goals simp at hc
  ·cases hc
 | binOp op t x y yt =>
  exfalso
  cases op <;> simp only [cop,copEq,Option.some.injEq,reduceCtorEq] at hc <;> (repeat' split at hc) <;> simp at hc
 | _ =>
  exfalso
  simp only [cop,reduceCtorEq,Option.some.injEq] at hc <;> (repeat' split at hc) <;> simp [Option.bind_eq_some_iff,Option.map_eq_some_iff] at hc
theorem op_ok (r:Rel X st hd a w) {o:Oper} {c:COp} {rd:Option Nat} {n:Nat} {Q:Exit -> Act -> World -> Prop} {K:Act -> World -> Prop} (hc:cop P o = some c) (hs:OpS P st o.dst c st')
  (hK:∀ hd' a' w',Rel X st' hd' a' w' -> K a' w'):o.wpIn (Wd rd) n P a w K Q:=by
 refine ⟨fun f _=>trivial,?_⟩
 have hsem:o.semAt (Wd rd).round a.eval = execOp a.eval o:=Oper.semAt_eq _ _ _ (cop_notDefer hc)
 rw [hsem]
 have simple:(∃ av h',cstep st c = some (av,h') /\ st' = ⟨putT st.t o.dst av,h'⟩) -> o.uponIn (Wd rd) n P a K Q ((execOp a.eval o).run P w):=by
  rintro ⟨av,h',hst,rfl⟩
  obtain ⟨nx,w',hd',row,hrun,hg,hro,H',T,hv⟩:=cstep_ok r.heap r.M0_lt r.B0_le r.sees hc hst
  rw [hrun]
  rcases hv with ⟨v,rfl,hav⟩ | ⟨rfl,hdst⟩
  ·exact hK hd' _ _ (r.step hg hro H' T hav)
  ·have hj:=r.step (dst:=none) (av:=av) (v:=undef) hg hro H' T
   show K (a.put o.dst undef) w'
   refine hK hd' _ _ ?_
   have hj':=r.step (dst:=none) (av:=.junk) (v:=undef) hg hro H' T (.junk _)
   rw [hdst]
   exact hj'
 cases c with
 | callf f args =>
  simp only [OpS] at hs
  obtain ⟨g,as,hca,hcs⟩:=hs
  have hfn:∃ (bs caps:List Cell) (us vs:List Value),a.eval f = .func (.func g) us.toArray vs.toArray /\ PW (AVR w (badOf X.M0 st.h hd) st.h hd) (bs.map AV.one) us /\ PW (AVR w (badOf X.M0 st.h hd) st.h hd) (caps.map AV.one) vs /\ as = bs.map AV.one ++ (evs st args ++ caps.map AV.one):=by
   have hf:=r.sees f
   unfold callArgs at hca
   split at hca
   ·rename_i g' caps hev
    simp only [Option.some.injEq,Prod.mk.injEq] at hca
    obtain ⟨rfl,rfl⟩:=hca
    rw [hev] at hf
    generalize hfv:a.eval f = u at hf
    cases hf with
    | one _ _ hx =>
     cases hx with
     | fn _ _ vs hl hv =>
      exact ⟨[],caps,[],vs,rfl,⟨rfl,fun i c u hc _=>by simp at hc⟩,⟨by simpa using hl,fun i c u hc hu=>by
       rw [List.getElem?_map] at hc
       cases hq:caps[i]? with
       | none=>simp [hq] at hc
       | some q=>simp [hq] at hc;subst hc;exact .one _ _ (hv i q u hq hu)⟩,rfl⟩
   ·rename_i g' c hev
    simp only [Option.some.injEq,Prod.mk.injEq] at hca
    obtain ⟨rfl,rfl⟩:=hca
    rw [hev] at hf
    generalize hfv:a.eval f = u at hf
    cases hf with
    | one _ _ hx =>
     cases hx with
     | mfn _ _ v hv=>exact ⟨[c],[],[v],[],rfl,PW.cons (.one _ _ hv) ⟨rfl,fun i c u hc _=>by simp at hc⟩,⟨rfl,fun i c u hc _=>by simp at hc⟩,by simp⟩
   ·rename_i v hev
    simp only [Option.map_eq_some_iff,Prod.mk.injEq] at hca
    obtain ⟨g',hg',rfl,rfl⟩:=hca
    rw [hev] at hf
    have hv:=hf.val
    rw [fnVal_is hg'] at hv
    exact ⟨[],[],[],[],hv,⟨rfl,fun i c u hc _=>by simp at hc⟩,⟨rfl,fun i c u hc _=>by simp at hc⟩,by simp⟩
   ·cases hca
  obtain ⟨bs,caps,us,vs,hfv,hbs,hcaps,rfl⟩:=hfn
  have hargs:=evs_pw (ρ:=a.eval) r.sees args
  obtain ⟨hcall,hC⟩:=call_ok r (hbs.append (hargs.append hcaps)) hcs
  obtain ⟨dst,op,type,pos,after,guard⟩:=o
  have hop:=cop_callf hc
  simp only at hop
  obtain ⟨cc,rfl,hcal,hcargs⟩:=hop
  have hrun:(execOp a.eval ⟨dst,.call cc,type,pos,after,guard⟩).run P w = .ok (.enter g (us ++ (args.map a.eval ++ vs)).toArray) w:=by
   obtain ⟨callee,cargs,ct⟩:=cc
   simp only at hcal hcargs
   subst hcal
   have ea:cargs.map a.eval = (args.map a.eval).toArray:=by apply Array.ext';simp [hcargs]
   simp only [execOp,resolve,hfv,Deferred.ofValue,pure_bind,invoke,ea]
   have:=hcall (us.toArray ++ (args.map a.eval).toArray ++ vs.toArray) w
   simpa using this
  rw [hrun]
  refine ⟨fun h=>by simp [Wd,Fence.wide] at h,callsIn_wd (hC.mono ?_)⟩
  rintro e w' ⟨v,hd',rfl,hr⟩
  exact hK hd' _ _ hr
 | _=>exact simple hs
end Go.Am
namespace Go.Am
open Go.RowKit
variable {GL:Glb}
variable {P:Program} {w w':World} {M0:Nat -> Prop} {h h0 h1 h2 h':List Blk} {hd hd':Nat -> Value} {B0:Nat} {bad bad':Nat -> Prop} {X:Ctx} {st st':St} {a:Act}
inductive Cls where
 | pure | read | alloc | app | write | fill | quiet
 deriving DecidableEq
def cls (opn:List FuncId):COp -> Cls
 | .mv _ | .pick .. | .build .. | .bin .. | .beq .. | .aggeq .. | .un .. | .conv .. | .mkfn .. | .mkmeth .. | .field .. | .sidx .. | .ext .. | .mm .. | .sslice .. | .cutc .. | .mkrowc .. | .makec ..=>.pure
 | .isnil .. | .load .. | .bstr .. | .faddr .. | .iaddr .. | .len ..=>.read
 | .new .. | .box .. | .mkrow .. | .make ..=>.alloc
 | .callf (.func g) _=>if opn.contains g then .write else if opn.contains (g + 1000000) then .quiet else .alloc
 | .callf (.tmp _) _=>if opn.contains 2000000 then .write else .alloc
 | .callf ..=>.alloc
 | .append _ e _ _ _=>if e = 0 then .write else .app
 | .fill ..=>.fill
 | _=>.write
def opnds:COp -> List Operand
 | .mv x | .box _ x | .load _ _ x | .isnil _ _ x | .un _ x | .conv _ x | .bstr x | .faddr _ x | .field _ _ _ x | .ext x _ | .len _ x=>[x]
 | .pick c a b=>[c,a,b]
 | .new ..=>[]
 | .build _ ps=>ps.map (·.2.2)
 | .mkrow _ _ ps=>ps
 | .store _ x y | .bin _ x y | .beq _ x y | .aggeq _ _ x y | .iaddr _ _ x y | .sidx x y | .append _ _ _ x y | .copy _ x y | .mm _ x y=>[x,y]
 | .mkfn _ cs=>cs
 | .mkmeth _ x=>[x]
 | .make _ _ _ _ l c=>[l,c]
 | .slice _ x lo hi mx=>x :: (lo.toList ++ hi.toList ++ mx.toList)
 | .sslice x lo hi=>x :: (lo.toList ++ hi.toList)
 | .callf f as=>f :: as
 | .cutc _ x lo hi mx=>x :: (lo.toList ++ hi.toList ++ mx.toList)
 | .mkrowc _ ps=>ps
 | .makec _ _ _ l c=>[l,c]
 | .fill ..=>[]
theorem foldlM_congr {α γ:Type} {f g:γ -> α -> Option γ}:∀ (l:List α) (c:γ),(∀ a ∈ l,∀ c,f c a = g c a) -> l.foldlM f c = l.foldlM g c
 | [],_,_=>rfl
 | a :: l,c,hh=>by
  simp only [List.foldlM_cons]
  rw [hh a (by simp) c]
  congr 1
  funext d
  exact foldlM_congr l d (fun a ha=>hh a (by simp [ha]))
theorem mapM_congr' {α β:Type} {f g:α -> Option β}:∀ (l:List α),(∀ a ∈ l,f a = g a) -> l.mapM f = l.mapM g
 | [],_=>rfl
 | a :: l,hh=>by
  rw [List.mapM_cons,List.mapM_cons,hh a (by simp),mapM_congr' l (fun a ha=>hh a (by simp [ha]))]
theorem cstep_congr {t t':List AV} {h:List Blk} {op:COp} (hh:∀ x ∈ opnds op,(⟨t,h⟩:St).ev x = (⟨t',h⟩:St).ev x):cstep ⟨t,h⟩ op = cstep ⟨t',h⟩ op:=by
 cases op with
 | build zs ps =>
  simp only [cstep]
  rw [foldlM_congr ps _ (fun p hp c=>by rw [hh p.2.2 (List.mem_map.2 ⟨p,hp,rfl⟩)])]
 | mkrow ty e ps =>
  simp only [cstep]
  rw [mapM_congr' ps (fun p hp=>by rw [hh p hp])]
 | mkfn f cs =>
  simp only [cstep]
  rw [mapM_congr' cs (fun p hp=>by rw [hh p hp])]
 | slice e x lo hi mx =>
  have hx:=hh x (by simp [opnds])
  have hlo:lo.map (⟨t,h⟩:St).ev = lo.map (⟨t',h⟩:St).ev:=by cases lo with | none=>rfl | some y=>simp [hh y (by simp [opnds])]
  have hhi:hi.map (⟨t,h⟩:St).ev = hi.map (⟨t',h⟩:St).ev:=by cases hi with | none=>rfl | some y=>simp [hh y (by simp [opnds])]
  cases mx with
  | none=>simp only [cstep,hx,hlo,hhi]
  | some m =>
   have hm:=hh m (by simp [opnds])
   simp only [cstep,hx,hlo,hhi,hm]
 | sslice x lo hi =>
  have hx:=hh x (by simp [opnds])
  have hlo:lo.map (⟨t,h⟩:St).ev = lo.map (⟨t',h⟩:St).ev:=by cases lo with | none=>rfl | some y=>simp [hh y (by simp [opnds])]
  have hhi:hi.map (⟨t,h⟩:St).ev = hi.map (⟨t',h⟩:St).ev:=by cases hi with | none=>rfl | some y=>simp [hh y (by simp [opnds])]
  simp only [cstep,hx,hlo,hhi]
 | cutc e x lo hi mx =>
  have hx:=hh x (by simp [opnds])
  have hlo:lo.map (⟨t,h⟩:St).ev = lo.map (⟨t',h⟩:St).ev:=by cases lo with | none=>rfl | some y=>simp [hh y (by simp [opnds])]
  have hhi:hi.map (⟨t,h⟩:St).ev = hi.map (⟨t',h⟩:St).ev:=by cases hi with | none=>rfl | some y=>simp [hh y (by simp [opnds])]
  have hmx:mx.map (⟨t,h⟩:St).ev = mx.map (⟨t',h⟩:St).ev:=by cases mx with | none=>rfl | some y=>simp [hh y (by simp [opnds])]
  simp only [cstep,hx,hlo,hhi,hmx]
 | mkrowc e ps =>
  simp only [cstep]
  rw [mapM_congr' ps (fun p hp=>by rw [hh p hp])]
 | fill ty zs=>rfl
 | pick c a b=>simp only [cstep,hh c (by simp [opnds]),hh a (by simp [opnds]),hh b (by simp [opnds])]
 | new ty zs=>rfl
 | store n x y=>simp only [cstep,hh x (by simp [opnds]),hh y (by simp [opnds])]
 | bin op x y=>simp only [cstep,hh x (by simp [opnds]),hh y (by simp [opnds])]
 | beq ng x y=>simp only [cstep,hh x (by simp [opnds]),hh y (by simp [opnds])]
 | aggeq ng n x y=>simp only [cstep,hh x (by simp [opnds]),hh y (by simp [opnds])]
 | iaddr e ar x y=>simp only [cstep,hh x (by simp [opnds]),hh y (by simp [opnds])]
 | sidx x y=>simp only [cstep,hh x (by simp [opnds]),hh y (by simp [opnds])]
 | append ty e b x y=>simp only [cstep,hh x (by simp [opnds]),hh y (by simp [opnds])]
 | copy e x y=>simp only [cstep,hh x (by simp [opnds]),hh y (by simp [opnds])]
 | mm m x y=>simp only [cstep,hh x (by simp [opnds]),hh y (by simp [opnds])]
 | make ty e b zs l c=>simp only [cstep,hh l (by simp [opnds]),hh c (by simp [opnds])]
 | makec e b zs l c=>simp only [cstep,hh l (by simp [opnds]),hh c (by simp [opnds])]
 | callf f as=>rfl
 | mv x=>simp only [cstep,hh x (by simp [opnds])]
 | box t x=>simp only [cstep,hh x (by simp [opnds])]
 | load n ag x=>simp only [cstep,hh x (by simp [opnds])]
 | isnil f n x=>simp only [cstep,hh x (by simp [opnds])]
 | un o x=>simp only [cstep,hh x (by simp [opnds])]
 | conv k x=>simp only [cstep,hh x (by simp [opnds])]
 | mkmeth f x=>simp only [cstep,hh x (by simp [opnds])]
 | bstr x=>simp only [cstep,hh x (by simp [opnds])]
 | faddr o x=>simp only [cstep,hh x (by simp [opnds])]
 | field o n ag x=>simp only [cstep,hh x (by simp [opnds])]
 | ext x i=>simp only [cstep,hh x (by simp [opnds])]
 | len s x=>simp only [cstep,hh x (by simp [opnds])]
theorem ev_heap (t:List AV) (h h':List Blk) (x:Operand):(⟨t,h⟩:St).ev x = (⟨t,h'⟩:St).ev x:=by cases x <;> rfl
theorem evmap_heap (t:List AV) (h h':List Blk) (x:Option Operand):x.map (⟨t,h⟩:St).ev = x.map (⟨t,h'⟩:St).ev:=by cases x with | none=>rfl | some y=>simp [ev_heap t h h' y]
theorem pure_heap {opn:List FuncId} {t:List AV} {op:COp} {av:AV} (hc:cls opn op = .pure) (hs:cstep ⟨t,h⟩ op = some (av,h')):h' = h /\ ∀ h2,cstep ⟨t,h2⟩ op = some (av,h2):=by
 have ev:∀ h2 x,(⟨t,h2⟩:St).ev x = (⟨t,h⟩:St).ev x:=fun h2 x=>ev_heap t h2 h x
 cases op <;> simp only [cls,reduceCtorEq] at hc
 case mv x=>simp only [cstep,Option.some.injEq,Prod.mk.injEq] at hs ⊢;obtain ⟨rfl,rfl⟩:=hs;exact ⟨rfl,fun h2=>⟨ev h2 x,trivial⟩⟩
 case pick c a b =>
  simp only [cstep,Option.map_eq_some_iff,Prod.mk.injEq] at hs
  obtain ⟨b',hb,rfl,rfl⟩:=hs
  exact ⟨rfl,fun h2=>by simp only [cstep,ev h2,hb,Option.map_some]⟩
 case build zs ps =>
  simp only [cstep,Option.map_eq_some_iff,Prod.mk.injEq] at hs
  obtain ⟨b',hb,rfl,rfl⟩:=hs
  exact ⟨rfl,fun h2=>by simp only [cstep,ev h2,hb,Option.map_some]⟩
 case bin o x y =>
  simp only [cstep,Option.map_eq_some_iff,Prod.mk.injEq] at hs
  obtain ⟨b',hb,rfl,rfl⟩:=hs
  exact ⟨rfl,fun h2=>by simp only [cstep,ev h2,hb,Option.map_some]⟩
 case beq ng x y =>
  simp only [cstep] at hs
  split at hs
  ·rename_i p q hp hq
   simp only [Option.some.injEq,Prod.mk.injEq] at hs
   obtain ⟨rfl,rfl⟩:=hs
   exact ⟨rfl,fun h2=>by simp only [cstep,ev h2,hp,hq]⟩
  ·cases hs
 case aggeq ng n x y =>
  simp only [cstep] at hs
  split at hs
  ·rename_i p q hp hq
   simp only [Option.bind_eq_some_iff] at hs
   obtain ⟨s,hs1,r,hr1,hs⟩:=hs
   split at hs
   ·rename_i hl
    simp only [Option.some.injEq,Prod.mk.injEq] at hs
    obtain ⟨rfl,rfl⟩:=hs
    exact ⟨rfl,fun h2=>by simp only [cstep,ev h2,hp,hq,hs1,hr1,Option.bind_some,if_pos hl]⟩
   ·cases hs
  ·cases hs
 case un o x =>
  simp only [cstep] at hs
  split at hs
  ·rename_i b hp
   simp only [Option.some.injEq,Prod.mk.injEq] at hs
   obtain ⟨rfl,rfl⟩:=hs
   exact ⟨rfl,fun h2=>by simp only [cstep,ev h2,hp]⟩
  ·rename_i b hp
   simp only [Option.some.injEq,Prod.mk.injEq] at hs
   obtain ⟨rfl,rfl⟩:=hs
   exact ⟨rfl,fun h2=>by simp only [cstep,ev h2,hp]⟩
  ·cases hs
 case conv k x =>
  simp only [cstep,Option.map_eq_some_iff,Prod.mk.injEq] at hs
  obtain ⟨b',hb,rfl,rfl⟩:=hs
  exact ⟨rfl,fun h2=>by simp only [cstep,ev h2,hb,Option.map_some]⟩
 case mkmeth f x =>
  simp only [cstep] at hs
  split at hs
  ·rename_i b hp
   simp only [Option.some.injEq,Prod.mk.injEq] at hs
   obtain ⟨rfl,rfl⟩:=hs
   exact ⟨rfl,fun h2=>by simp only [cstep,ev h2,hp]⟩
  ·cases hs
 case mkfn f cs =>
  simp only [cstep,Option.map_eq_some_iff,Prod.mk.injEq] at hs
  obtain ⟨b',hb,rfl,rfl⟩:=hs
  exact ⟨rfl,fun h2=>by simp only [cstep,ev h2];rw [hb];rfl⟩
 case field o n ag x =>
  simp only [cstep] at hs
  split at hs
  ·rename_i cs hp
   split at hs
   ·rename_i hl
    simp only [Option.map_eq_some_iff,Prod.mk.injEq] at hs
    obtain ⟨b',hb,rfl,rfl⟩:=hs
    exact ⟨rfl,fun h2=>by simp only [cstep,ev h2,hp,if_pos hl,hb,Option.map_some]⟩
   ·cases hs
  ·cases hs
 case sidx x y =>
  simp only [cstep] at hs
  split at hs
  ·rename_i s k j hp hq
   split at hs
   ·rename_i hl
    simp only [Option.map_eq_some_iff,Prod.mk.injEq] at hs
    obtain ⟨b',hb,rfl,rfl⟩:=hs
    exact ⟨rfl,fun h2=>by simp only [cstep,ev h2,hp,hq,if_pos hl,hb,Option.map_some]⟩
   ·cases hs
  ·cases hs
 case ext x i =>
  simp only [cstep] at hs
  split at hs
  ·rename_i l hp
   simp only [Option.map_eq_some_iff,Prod.mk.injEq] at hs
   obtain ⟨b',hb,rfl,rfl⟩:=hs
   exact ⟨rfl,fun h2=>by simp only [cstep,ev h2,hp,hb,Option.map_some]⟩
  ·cases hs
 case mm m x y =>
  simp only [cstep] at hs
  split at hs
  ·rename_i k a' k' b hp hq
   simp only [Option.some.injEq,Prod.mk.injEq] at hs
   obtain ⟨rfl,rfl⟩:=hs
   exact ⟨rfl,fun h2=>by simp only [cstep,ev h2,hp,hq]⟩
  ·cases hs
 case sslice x lo hi =>
  simp only [cstep,Option.bind_eq_some_iff,Option.map_eq_some_iff,Prod.mk.injEq] at hs
  obtain ⟨s,hs1,b,hb,c,hc1,rfl,rfl⟩:=hs
  have elo:∀ h2,lo.map (⟨t,h2⟩:St).ev = lo.map (⟨t,h⟩:St).ev:=fun h2=>by cases lo with | none=>rfl | some y=>simp [ev h2 y]
  have ehi:∀ h2,hi.map (⟨t,h2⟩:St).ev = hi.map (⟨t,h⟩:St).ev:=fun h2=>by cases hi with | none=>rfl | some y=>simp [ev h2 y]
  exact ⟨rfl,fun h2=>by simp only [cstep,ev h2,elo h2,ehi h2,hs1,hb,hc1,Option.bind_some,Option.map_some]⟩
 case append ty e b x y=>split at hc <;> cases hc
 case cutc e x lo hi mx =>
  simp only [cstep,Option.map_eq_some_iff,Prod.mk.injEq] at hs
  obtain ⟨b',hb,rfl,rfl⟩:=hs
  exact ⟨rfl,fun h2=>by simp only [cstep,ev h2,evmap_heap t h2 h,hb,Option.map_some]⟩
 case makec e b zs l c =>
  simp only [cstep] at hs
  split at hs
  ·rename_i k1 n k2 m hl hm
   split at hs
   ·rename_i hcd
    simp only [Option.some.injEq,Prod.mk.injEq] at hs
    obtain ⟨rfl,rfl⟩:=hs
    exact ⟨rfl,fun h2=>by simp only [cstep,ev h2,hl,hm];rw [if_pos hcd]⟩
   ·cases hs
  ·cases hs
 case mkrowc e ps =>
  simp only [cstep,Option.map_eq_some_iff,Prod.mk.injEq] at hs
  obtain ⟨b',hb,rfl,rfl⟩:=hs
  refine ⟨rfl,fun h2=>?_⟩
  simp only [cstep,ev h2]
  rw [hb];rfl
 case callf f as =>
  exfalso
  cases f <;> simp only [cls,reduceCtorEq] at hc
  all_goals repeat' split at hc
  all_goals cases hc
def Sim (h h':List Blk):Prop:=∀ (b:Nat) (k:Blk),h[b]? = some k -> ∃ l,h'[b]? = some { k with live:=l }
theorem Sim.refl (h:List Blk):Sim h h:=fun b k hk=>⟨k.live,hk⟩
theorem Sim.trans (a:Sim h h1) (b:Sim h1 h2):Sim h h2:=fun i k hk=>by
 obtain ⟨l,hl⟩:=a i k hk
 obtain ⟨l',hl'⟩:=b i _ hl
 exact ⟨l',hl'⟩
theorem Sim.append (h ks:List Blk):Sim h (h ++ ks):=fun b k hk=>⟨k.live,by rw [List.getElem?_append_left (List.getElem?_eq_some_iff.1 hk).1];exact hk⟩
theorem Sim.freeze (ids:List Nat) (h:List Blk):Sim h (freeze ids h):=fun b k hk=>by
 rw [freeze_get,hk]
 by_cases hb:ids.contains b = true
 ·exact ⟨false,by simp only [Option.map_some,hb,if_true]⟩
 ·exact ⟨k.live,by simp only [Option.map_some,hb,if_false,Bool.false_eq_true]⟩
def Scoped (h:List Blk):AV -> Prop
 | .one (.own b _) | .one (.ptr b _ _ _)=>∃ k,h[b]? = some k
 | _=>True
theorem AVR.inScope {x:AV} {v:Value} (hx:AVR w bad h hd x v):Scoped h x:=by
 cases hx with
 | one c v hv =>
  cases hv with
  | own b blk hb h1=>exact ⟨_,hb⟩
  | ownStale b ver blk v hb hv h1=>exact ⟨_,hb⟩
  | ptr b i off blk g n cap hb hh=>exact ⟨_,hb⟩
  | ptrStale b ver i off blk v hb hv h1=>exact ⟨_,hb⟩
  | _=>trivial
 | _=>trivial
theorem readN_sim (hS:Sim h h') {n:Nat} {x:AV} {cs:List Cell}:(readN h n x = some cs -> readN h' n x = some cs) /\ (Scoped h x -> readN h' n x = some cs -> readN h n x = some cs):=by
 unfold readN
 split
 ·rename_i b ver i off
  refine ⟨fun hr=>?_,fun hsc hr=>?_⟩
  ·cases hk:h[b]? with
   | none=>simp [hk] at hr
   | some k=>obtain ⟨l,hl⟩:=hS b k hk;simpa [hk,hl] using hr
  ·obtain ⟨k,hk⟩:=hsc
   obtain ⟨l,hl⟩:=hS b k hk
   simpa [hk,hl] using hr
 ·exact ⟨fun h=>h,fun _ h=>h⟩
 ·exact ⟨fun h=>h,fun _ h=>h⟩
theorem elems_sim (hS:Sim h h') {e:Nat} {x:AV} {cs:List (List Cell)}:(elems h e x = some cs -> elems h' e x = some cs) /\ (Scoped h x -> elems h' e x = some cs -> elems h e x = some cs):=by
 unfold elems
 split
 ·rename_i b ver
  refine ⟨fun hr=>?_,fun hsc hr=>?_⟩
  ·cases hk:h[b]? with
   | none=>simp [hk] at hr
   | some k=>obtain ⟨l,hl⟩:=hS b k hk;simpa [hk,hl] using hr
  ·obtain ⟨k,hk⟩:=hsc
   obtain ⟨l,hl⟩:=hS b k hk
   simpa [hk,hl] using hr
 all_goals exact ⟨fun h=>h,fun _ h=>h⟩
theorem lenAV_sim (hS:Sim h h') {s:Bool} {x:AV} {n:Nat}:(lenAV h s x = some n -> lenAV h' s x = some n) /\ (Scoped h x -> lenAV h' s x = some n -> lenAV h s x = some n):=by
 unfold lenAV
 split
 ·rename_i b ver
  refine ⟨fun hr=>?_,fun hsc hr=>?_⟩
  ·cases hk:h[b]? with
   | none=>simp [hk] at hr
   | some k=>obtain ⟨l,hl⟩:=hS b k hk;simpa [hk,hl] using hr
  ·obtain ⟨k,hk⟩:=hsc
   obtain ⟨l,hl⟩:=hS b k hk
   simpa [hk,hl] using hr
 all_goals exact ⟨fun h=>h,fun _ h=>h⟩
theorem isNilAV_sim (hS:Sim h h') {s:Bool} {x:AV} {n:Bool}:(isNilAV h s x = some n -> isNilAV h' s x = some n) /\ (Scoped h x -> isNilAV h' s x = some n -> isNilAV h s x = some n):=by
 unfold isNilAV
 split
 ·exact ⟨fun h=>h,fun _ h=>h⟩
 ·exact ⟨fun h=>h,fun _ h=>h⟩
 ·exact ⟨fun h=>h,fun _ h=>h⟩
 ·rename_i b ver
  refine ⟨fun hr=>?_,fun hsc hr=>?_⟩
  ·cases hk:h[b]? with
   | none=>simp [hk] at hr
   | some k=>obtain ⟨l,hl⟩:=hS b k hk;simpa [hk,hl] using hr
  ·obtain ⟨k,hk⟩:=hsc
   obtain ⟨l,hl⟩:=hS b k hk
   simpa [hk,hl] using hr
 all_goals exact ⟨fun h=>h,fun _ h=>h⟩
theorem read_sim {opn:List FuncId} {t:List AV} {op:COp} {av:AV} (hc:cls opn op = .read) (hS:Sim h h') :
  (∀ h1,cstep ⟨t,h⟩ op = some (av,h1) -> h1 = h /\ cstep ⟨t,h'⟩ op = some (av,h')) /\
  (∀ h1,(∀ x ∈ opnds op,Scoped h ((⟨t,h⟩:St).ev x)) -> cstep ⟨t,h'⟩ op = some (av,h1) -> h1 = h' /\ cstep ⟨t,h⟩ op = some (av,h)):=by
 have ev:∀ x,(⟨t,h'⟩:St).ev x = (⟨t,h⟩:St).ev x:=fun x=>ev_heap t h' h x
 cases op <;> simp only [cls,reduceCtorEq] at hc
 case isnil f n x =>
  refine ⟨fun h1 hs=>?_,fun h1 hsc hs=>?_⟩
  ·simp only [cstep,Option.map_eq_some_iff,Prod.mk.injEq] at hs ⊢
   obtain ⟨b,hb,rfl,rfl⟩:=hs
   exact ⟨rfl,b,by rw [ev];exact (isNilAV_sim hS).1 hb,rfl,trivial⟩
  ·simp only [cstep,Option.map_eq_some_iff,Prod.mk.injEq] at hs ⊢
   obtain ⟨b,hb,rfl,rfl⟩:=hs
   rw [ev] at hb
   exact ⟨rfl,b,(isNilAV_sim hS).2 (hsc x (by simp [opnds])) hb,rfl,trivial⟩
 case load n ag x =>
  refine ⟨fun h1 hs=>?_,fun h1 hsc hs=>?_⟩
  ·simp only [cstep,Option.bind_eq_some_iff,Option.map_eq_some_iff,Prod.mk.injEq] at hs ⊢
   obtain ⟨cs,hb,v,hv,rfl,rfl⟩:=hs
   exact ⟨rfl,cs,by rw [ev];exact (readN_sim hS).1 hb,v,hv,rfl,trivial⟩
  ·simp only [cstep,Option.bind_eq_some_iff,Option.map_eq_some_iff,Prod.mk.injEq] at hs ⊢
   obtain ⟨cs,hb,v,hv,rfl,rfl⟩:=hs
   rw [ev] at hb
   exact ⟨rfl,cs,(readN_sim hS).2 (hsc x (by simp [opnds])) hb,v,hv,rfl,trivial⟩
 case bstr x =>
  refine ⟨fun h1 hs=>?_,fun h1 hsc hs=>?_⟩
  ·simp only [cstep,Option.bind_eq_some_iff,Option.map_eq_some_iff,Prod.mk.injEq] at hs ⊢
   obtain ⟨cs,hb,v,hv,rfl,rfl⟩:=hs
   exact ⟨rfl,cs,by rw [ev];exact (elems_sim hS).1 hb,v,hv,rfl,trivial⟩
  ·simp only [cstep,Option.bind_eq_some_iff,Option.map_eq_some_iff,Prod.mk.injEq] at hs ⊢
   obtain ⟨cs,hb,v,hv,rfl,rfl⟩:=hs
   rw [ev] at hb
   exact ⟨rfl,cs,(elems_sim hS).2 (hsc x (by simp [opnds])) hb,v,hv,rfl,trivial⟩
 case len s x =>
  refine ⟨fun h1 hs=>?_,fun h1 hsc hs=>?_⟩
  ·simp only [cstep,Option.map_eq_some_iff,Prod.mk.injEq] at hs ⊢
   obtain ⟨b,hb,rfl,rfl⟩:=hs
   exact ⟨rfl,b,by rw [ev];exact (lenAV_sim hS).1 hb,rfl,trivial⟩
  ·simp only [cstep,Option.map_eq_some_iff,Prod.mk.injEq] at hs ⊢
   obtain ⟨b,hb,rfl,rfl⟩:=hs
   rw [ev] at hb
   exact ⟨rfl,b,(lenAV_sim hS).2 (hsc x (by simp [opnds])) hb,rfl,trivial⟩
 case faddr o x =>
  refine ⟨fun h1 hs=>?_,fun h1 hsc hs=>?_⟩
  ·simp only [cstep,ev] at hs ⊢
   split at hs
   ·rename_i b ver i off hev
    cases hk:h[b]? with
    | none=>simp [hk] at hs
    | some k =>
     obtain ⟨l,hl⟩:=hS b k hk
     simp only [hk] at hs
     simp only [hl]
     split at hs
     ·rename_i hver
      simp only [Option.some.injEq,Prod.mk.injEq] at hs
      obtain ⟨rfl,rfl⟩:=hs
      exact ⟨rfl,by rw [if_pos hver]⟩
     ·cases hs
   ·simp only [Option.some.injEq,Prod.mk.injEq] at hs
    obtain ⟨rfl,rfl⟩:=hs
    exact ⟨rfl,rfl⟩
   ·cases hs
  ·have hsx:=hsc x (by simp [opnds])
   simp only [cstep,ev] at hs ⊢
   split at hs
   ·rename_i b ver i off hev
    rw [hev] at hsx
    obtain ⟨k,hk⟩:=hsx
    obtain ⟨l,hl⟩:=hS b k hk
    simp only [hl] at hs
    simp only [hk]
    split at hs
    ·rename_i hver
     simp only [Option.some.injEq,Prod.mk.injEq] at hs
     obtain ⟨rfl,rfl⟩:=hs
     exact ⟨rfl,by rw [if_pos hver]⟩
    ·cases hs
   ·simp only [Option.some.injEq,Prod.mk.injEq] at hs
    obtain ⟨rfl,rfl⟩:=hs
    exact ⟨rfl,rfl⟩
   ·cases hs
 case iaddr e ar x y =>
  refine ⟨fun h1 hs=>?_,fun h1 hsc hs=>?_⟩
  ·simp only [cstep,ev] at hs ⊢
   cases hi:((⟨t,h⟩:St).ev y).int? with
   | none=>simp [hi] at hs
   | some p =>
    simp only [hi] at hs ⊢
    split at hs
    ·rename_i b ver hev
     cases hk:h[b]? with
     | none=>simp [hk] at hs
     | some k =>
      obtain ⟨l,hl⟩:=hS b k hk
      simp only [hk] at hs
      simp only [hl]
      split at hs
      ·rename_i hver
       simp only [Option.some.injEq,Prod.mk.injEq] at hs
       obtain ⟨rfl,rfl⟩:=hs
       exact ⟨rfl,by rw [if_pos hver]⟩
      ·cases hs
    ·rename_i e' l hev
     split at hs
     ·rename_i hcnd
      rw [if_pos hcnd]
      cases hq:l[p.2.toNat]? with
      | none=>simp [hq] at hs
      | some r=>simp only [hq,Option.some.injEq,Prod.mk.injEq] at hs ⊢;obtain ⟨rfl,rfl⟩:=hs;exact ⟨rfl,rfl,trivial⟩
     ·cases hs
    ·rename_i e' l hev
     split at hs
     ·rename_i hcnd
      rw [if_pos hcnd]
      cases hq:l[p.2.toNat]? with
      | none=>simp [hq] at hs
      | some r=>simp only [hq,Option.some.injEq,Prod.mk.injEq] at hs ⊢;obtain ⟨rfl,rfl⟩:=hs;exact ⟨rfl,rfl,trivial⟩
     ·cases hs
    ·rename_i n b ver i' off hev
     cases hk:h[b]? with
     | none=>simp [hk] at hs
     | some k =>
      obtain ⟨l,hl⟩:=hS b k hk
      simp only [hk] at hs
      simp only [hl]
      split at hs
      ·rename_i hver
       simp only [Option.some.injEq,Prod.mk.injEq] at hs
       obtain ⟨rfl,rfl⟩:=hs
       exact ⟨rfl,by rw [if_pos hver]⟩
      ·cases hs
    ·rename_i n l hev
     split at hs
     ·rename_i hcnd
      simp only [Option.some.injEq,Prod.mk.injEq] at hs
      obtain ⟨rfl,rfl⟩:=hs
      exact ⟨rfl,by rw [if_pos hcnd]⟩
     ·cases hs
    ·cases hs
  ·have hsx:=hsc x (by simp [opnds])
   simp only [cstep,ev] at hs ⊢
   cases hi:((⟨t,h⟩:St).ev y).int? with
   | none=>simp [hi] at hs
   | some p =>
    simp only [hi] at hs ⊢
    split at hs
    ·rename_i b ver hev
     rw [hev] at hsx
     obtain ⟨k,hk⟩:=hsx
     obtain ⟨l,hl⟩:=hS b k hk
     simp only [hl] at hs
     simp only [hk]
     split at hs
     ·rename_i hver
      simp only [Option.some.injEq,Prod.mk.injEq] at hs
      obtain ⟨rfl,rfl⟩:=hs
      exact ⟨rfl,by rw [if_pos hver]⟩
     ·cases hs
    ·rename_i e' l hev
     split at hs
     ·rename_i hcnd
      rw [if_pos hcnd]
      cases hq:l[p.2.toNat]? with
      | none=>simp [hq] at hs
      | some r=>simp only [hq,Option.some.injEq,Prod.mk.injEq] at hs ⊢;obtain ⟨rfl,rfl⟩:=hs;exact ⟨rfl,rfl,trivial⟩
     ·cases hs
    ·rename_i e' l hev
     split at hs
     ·rename_i hcnd
      rw [if_pos hcnd]
      cases hq:l[p.2.toNat]? with
      | none=>simp [hq] at hs
      | some r=>simp only [hq,Option.some.injEq,Prod.mk.injEq] at hs ⊢;obtain ⟨rfl,rfl⟩:=hs;exact ⟨rfl,rfl,trivial⟩
     ·cases hs
    ·rename_i n b ver i' off hev
     rw [hev] at hsx
     obtain ⟨k,hk⟩:=hsx
     obtain ⟨l,hl⟩:=hS b k hk
     simp only [hl] at hs
     simp only [hk]
     split at hs
     ·rename_i hver
      simp only [Option.some.injEq,Prod.mk.injEq] at hs
      obtain ⟨rfl,rfl⟩:=hs
      exact ⟨rfl,by rw [if_pos hver]⟩
     ·cases hs
    ·rename_i n l hev
     split at hs
     ·rename_i hcnd
      simp only [Option.some.injEq,Prod.mk.injEq] at hs
      obtain ⟨rfl,rfl⟩:=hs
      exact ⟨rfl,by rw [if_pos hcnd]⟩
     ·cases hs
    ·cases hs
 case append ty e b x y=>split at hc <;> cases hc
 case callf f as =>
  exfalso
  cases f <;> simp only [cls,reduceCtorEq] at hc
  all_goals repeat' split at hc
  all_goals cases hc
def Bmp (h h':List Blk):Prop:=∀ (b:Nat) (k:Blk),h[b]? = some k -> (∃ l,h'[b]? = some { k with live:=l }) \/ ∃ k',h'[b]? = some k' /\ k.ver < k'.ver
theorem Sim.bmp (a:Sim h h'):Bmp h h':=fun b k hk=>.inl (a b k hk)
theorem Bmp.refl (h:List Blk):Bmp h h:=(Sim.refl h).bmp
theorem Bmp.trans (a:Bmp h h1) (b:Bmp h1 h2):Bmp h h2:=fun i k hk=>by
 rcases a i k hk with ⟨l,hl⟩ | ⟨k',hk',hv⟩
 ·rcases b i _ hl with ⟨l',hl'⟩ | ⟨k'',hk'',hv'⟩
  ·exact .inl ⟨l',hl'⟩
  ·exact .inr ⟨k'',hk'',hv'⟩
 ·rcases b i _ hk' with ⟨l',hl'⟩ | ⟨k'',hk'',hv'⟩
  ·exact .inr ⟨_,hl',hv⟩
  ·exact .inr ⟨k'',hk'',by omega⟩
def ScopedV (h:List Blk):AV -> Prop
 | .one (.own b v) | .one (.ptr b v _ _)=>∃ k,h[b]? = some k /\ v <= k.ver
 | _=>True
theorem AVR.scopedV {x:AV} {v:Value} (hx:AVR w bad h hd x v):ScopedV h x:=by
 cases hx with
 | one c v hv =>
  cases hv with
  | own b blk hb h1=>exact ⟨_,hb,Nat.le_refl _⟩
  | ownStale b ver blk v hb hv h1=>exact ⟨_,hb,Nat.le_of_lt hv⟩
  | ptr b i off blk g n cap hb hh=>exact ⟨_,hb,Nat.le_refl _⟩
  | ptrStale b ver i off blk v hb hv h1=>exact ⟨_,hb,Nat.le_of_lt hv⟩
  | _=>trivial
 | _=>trivial
theorem readN_bmp (hS:Bmp h h') {n:Nat} {x:AV} {cs:List Cell} (hsc:ScopedV h x) (hr:readN h' n x = some cs):readN h n x = some cs:=by
 revert hr
 unfold readN
 split
 ·rename_i b ver i off
  intro hr
  obtain ⟨k,hk,hv⟩:=hsc
  rcases hS b k hk with ⟨l,hl⟩ | ⟨k',hk',hv'⟩
  ·simpa [hk,hl] using hr
  ·simp only [hk'] at hr
   rw [if_neg (by omega)] at hr
   cases hr
 ·exact fun h=>h
 ·exact fun h=>h
theorem elems_bmp (hS:Bmp h h') {e:Nat} {x:AV} {cs:List (List Cell)} (hsc:ScopedV h x) (hr:elems h' e x = some cs):elems h e x = some cs:=by
 revert hr
 unfold elems
 split
 ·rename_i b ver
  intro hr
  obtain ⟨k,hk,hv⟩:=hsc
  rcases hS b k hk with ⟨l,hl⟩ | ⟨k',hk',hv'⟩
  ·simpa [hk,hl] using hr
  ·simp only [hk'] at hr
   rw [if_neg (by omega)] at hr
   cases hr
 all_goals exact fun h=>h
theorem lenAV_bmp (hS:Bmp h h') {s:Bool} {x:AV} {n:Nat} (hsc:ScopedV h x) (hr:lenAV h' s x = some n):lenAV h s x = some n:=by
 revert hr
 unfold lenAV
 split
 ·rename_i b ver
  intro hr
  obtain ⟨k,hk,hv⟩:=hsc
  rcases hS b k hk with ⟨l,hl⟩ | ⟨k',hk',hv'⟩
  ·simpa [hk,hl] using hr
  ·simp only [hk'] at hr
   rw [if_neg (show ¬ (ver = k'.ver /\ 0 < k'.e) by omega)] at hr
   split at hr <;> cases hr
 all_goals exact fun h=>h
theorem isNilAV_bmp (hS:Bmp h h') {s:Bool} {x:AV} {n:Bool} (hsc:ScopedV h x) (hr:isNilAV h' s x = some n):isNilAV h s x = some n:=by
 revert hr
 unfold isNilAV
 split
 ·exact fun h=>h
 ·exact fun h=>h
 ·exact fun h=>h
 ·rename_i b ver
  intro hr
  obtain ⟨k,hk,hv⟩:=hsc
  rcases hS b k hk with ⟨l,hl⟩ | ⟨k',hk',hv'⟩
  ·simpa [hk,hl] using hr
  ·simp only [hk'] at hr
   rw [if_neg (show ¬ (ver = k'.ver /\ 0 < k'.e) by omega)] at hr
   split at hr <;> cases hr
 all_goals exact fun h=>h
theorem read_bmp {opn:List FuncId} {t:List AV} {op:COp} {av:AV} (hc:cls opn op = .read) (hS:Bmp h h') {h1:List Blk} (hsc:∀ x ∈ opnds op,ScopedV h ((⟨t,h⟩:St).ev x)) (hs:cstep ⟨t,h'⟩ op = some (av,h1)) :
  h1 = h' /\ cstep ⟨t,h⟩ op = some (av,h):=by
 have ev:∀ x,(⟨t,h'⟩:St).ev x = (⟨t,h⟩:St).ev x:=fun x=>ev_heap t h' h x
 cases op <;> simp only [cls,reduceCtorEq] at hc
 case append ty e b x y=>split at hc <;> cases hc
 case isnil f n x =>
  simp only [cstep,Option.map_eq_some_iff,Prod.mk.injEq] at hs ⊢
  obtain ⟨b,hb,rfl,rfl⟩:=hs
  rw [ev] at hb
  exact ⟨rfl,b,isNilAV_bmp hS (hsc x (by simp [opnds])) hb,rfl,trivial⟩
 case load n ag x =>
  simp only [cstep,Option.bind_eq_some_iff,Option.map_eq_some_iff,Prod.mk.injEq] at hs ⊢
  obtain ⟨cs,hb,v,hv,rfl,rfl⟩:=hs
  rw [ev] at hb
  exact ⟨rfl,cs,readN_bmp hS (hsc x (by simp [opnds])) hb,v,hv,rfl,trivial⟩
 case bstr x =>
  simp only [cstep,Option.bind_eq_some_iff,Option.map_eq_some_iff,Prod.mk.injEq] at hs ⊢
  obtain ⟨cs,hb,v,hv,rfl,rfl⟩:=hs
  rw [ev] at hb
  exact ⟨rfl,cs,elems_bmp hS (hsc x (by simp [opnds])) hb,v,hv,rfl,trivial⟩
 case len s x =>
  simp only [cstep,Option.map_eq_some_iff,Prod.mk.injEq] at hs ⊢
  obtain ⟨b,hb,rfl,rfl⟩:=hs
  rw [ev] at hb
  exact ⟨rfl,b,lenAV_bmp hS (hsc x (by simp [opnds])) hb,rfl,trivial⟩
 case faddr o x =>
  have hsx:=hsc x (by simp [opnds])
  simp only [cstep,ev] at hs ⊢
  split at hs
  ·rename_i b ver i off hev
   rw [hev] at hsx
   obtain ⟨k,hk,hv⟩:=hsx
   rcases hS b k hk with ⟨l,hl⟩ | ⟨k',hk',hv'⟩
   ·simp only [hl] at hs
    simp only [hk]
    split at hs
    ·rename_i hver
     simp only [Option.some.injEq,Prod.mk.injEq] at hs
     obtain ⟨rfl,rfl⟩:=hs
     exact ⟨rfl,by rw [if_pos hver]⟩
    ·cases hs
   ·simp only [hk'] at hs
    rw [if_neg (show ¬ (ver = k'.ver /\ 0 < k'.e) by omega)] at hs
    cases hs
  ·simp only [Option.some.injEq,Prod.mk.injEq] at hs
   obtain ⟨rfl,rfl⟩:=hs
   exact ⟨rfl,rfl⟩
  ·cases hs
 case iaddr e ar x y =>
  have hsx:=hsc x (by simp [opnds])
  simp only [cstep,ev] at hs ⊢
  cases hi:((⟨t,h⟩:St).ev y).int? with
  | none=>simp [hi] at hs
  | some p =>
   simp only [hi] at hs ⊢
   split at hs
   ·rename_i b ver hev
    rw [hev] at hsx
    obtain ⟨k,hk,hv⟩:=hsx
    rcases hS b k hk with ⟨l,hl⟩ | ⟨k',hk',hv'⟩
    ·simp only [hl] at hs
     simp only [hk]
     split at hs
     ·rename_i hver
      simp only [Option.some.injEq,Prod.mk.injEq] at hs
      obtain ⟨rfl,rfl⟩:=hs
      exact ⟨rfl,by rw [if_pos hver]⟩
     ·cases hs
    ·simp only [hk'] at hs
     split at hs
     ·rename_i hver;exfalso;have:=hver.1;omega
     ·cases hs
   ·rename_i e' l hev
    split at hs
    ·rename_i hcnd
     rw [if_pos hcnd]
     cases hq:l[p.2.toNat]? with
     | none=>simp [hq] at hs
     | some r=>simp only [hq,Option.some.injEq,Prod.mk.injEq] at hs ⊢;obtain ⟨rfl,rfl⟩:=hs;exact ⟨rfl,rfl,trivial⟩
    ·cases hs
   ·rename_i e' l hev
    split at hs
    ·rename_i hcnd
     rw [if_pos hcnd]
     cases hq:l[p.2.toNat]? with
     | none=>simp [hq] at hs
     | some r=>simp only [hq,Option.some.injEq,Prod.mk.injEq] at hs ⊢;obtain ⟨rfl,rfl⟩:=hs;exact ⟨rfl,rfl,trivial⟩
    ·cases hs
   ·rename_i n b ver i' off hev
    rw [hev] at hsx
    obtain ⟨k,hk,hv⟩:=hsx
    rcases hS b k hk with ⟨l,hl⟩ | ⟨k',hk',hv'⟩
    ·simp only [hl] at hs
     simp only [hk]
     split at hs
     ·rename_i hver
      simp only [Option.some.injEq,Prod.mk.injEq] at hs
      obtain ⟨rfl,rfl⟩:=hs
      exact ⟨rfl,by rw [if_pos hver]⟩
     ·cases hs
    ·simp only [hk'] at hs
     split at hs
     ·rename_i hver;exfalso;have:=hver.1;omega
     ·cases hs
   ·rename_i n l hev
    split at hs
    ·rename_i hcnd
     simp only [Option.some.injEq,Prod.mk.injEq] at hs
     obtain ⟨rfl,rfl⟩:=hs
     exact ⟨rfl,by rw [if_pos hcnd]⟩
    ·cases hs
   ·cases hs
 case callf f as =>
  exfalso
  cases f <;> simp only [cls,reduceCtorEq] at hc
  all_goals repeat' split at hc
  all_goals cases hc
end Go.Am
namespace Go.Am
open Go.RowKit
variable {GL:Glb}
variable {P:Program} {opn:List FuncId} {w w':World} {M0:Nat -> Prop} {h h0 h1 h2 h':List Blk} {hd hd':Nat -> Value} {B0:Nat} {bad bad':Nat -> Prop} {X:Ctx} {st st':St} {a:Act} {t t' t2:List AV}
def pureRes (h:List Blk) (ids:List Nat):Ret -> AV × List Blk
 | .ret av=>if flatAV av then (av,h) else (av,freeze ids h)
 | .fresh ty e l nn=>(.one (.own h.length 0),freeze ids h ++ [⟨0,ty,e,l.map (·.map .c),true,nn⟩])
theorem pureEnd_eq (st:St) (dst:Option Tmp) (ids:List Nat) (r:Ret):pureEnd st dst ids r = ⟨putT st.t dst (pureRes st.h ids r).1,(pureRes st.h ids r).2⟩:=by
 cases r with
 | ret av=>simp only [pureEnd,pureRes];split <;> rfl
 | fresh ty e l nn=>rfl
theorem pureRes_sim (h:List Blk) (ids:List Nat) (r:Ret):Sim h (pureRes h ids r).2:=by
 cases r with
 | ret av =>
  simp only [pureRes]
  split
  ·exact Sim.refl h
  ·exact Sim.freeze ids h
 | fresh ty e l nn=>exact (Sim.freeze ids h).trans (Sim.append _ _)
def isWrite (opn:List FuncId):Operand -> Bool
 | .func g=>opn.contains g
 | .tmp _=>opn.contains 2000000
 | _=>false
def isQuiet (opn:List FuncId):Operand -> Bool
 | .func g=>opn.contains (g + 1000000)
 | _=>false
def OpV [Glb] (P:Program) (opn:List FuncId) (t:List AV) (h:List Blk):COp -> AV -> List Blk -> Prop
 | .callf f args,av,h'=>∃ g as,callArgs ⟨t,h⟩ f args = some (g,as) /\
   ((∃ cas r,as.mapM (closeAV h 3) = some cas /\ PureC P g cas r /\ (av,h') = pureRes h (as.map (usedAV h 3)).flatten r) \/ (isWrite opn f = true /\ OpenC P g as h av h') \/ (isQuiet opn f = true /\ h' = h /\ OpenC P g as h av h'))
 | op,av,h'=>cstep ⟨t,h⟩ op = some (av,h')
def OV [Glb] (P:Program) (opn:List FuncId) (o:CO) (t:List AV) (h:List Blk) (av:AV) (h':List Blk):Prop :=
 match o.guard with
 | none=>OpV P opn t h o.op av h'
 | some (x,want)=>∃ g,guardWant ⟨t,h⟩ x want = some g /\ (g = true -> OpV P opn t h o.op av h') /\ (g = false -> av = .tup [] /\ h' = h)
def OD [Glb] (P:Program) (opn:List FuncId) (o:CO) (st st':St):Prop:=∃ av h',OV P opn o st.t st.h av h' /\ st' = ⟨putT st.t o.dst av,h'⟩
def RunD [Glb] (P:Program) (opn:List FuncId):List CO -> St -> St -> Prop
 | [],st,st'=>st' = st
 | o :: os,st,st'=>∃ s1,OD P opn o st s1 /\ RunD P opn os s1 st'
theorem OpV.opS {op:COp} {av:AV} {dst:Option Tmp} (hv:OpV P opn st.t st.h op av h'):OpS P st dst op ⟨putT st.t dst av,h'⟩:=by
 cases op with
 | callf f args =>
  obtain ⟨g,as,hca,hc | ⟨_,hc⟩ | ⟨_,_,hc⟩⟩:=hv
  ·obtain ⟨cas,r,hm,hp,he⟩:=hc
   refine ⟨g,as,hca,.inl ⟨cas,r,hm,hp,?_⟩⟩
   rw [pureEnd_eq,<- he]
  ·exact ⟨g,as,hca,.inr ⟨av,h',hc,rfl⟩⟩
  ·exact ⟨g,as,hca,.inr ⟨av,h',hc,rfl⟩⟩
 | _=>exact ⟨av,h',hv,rfl⟩
theorem guard_wanted {ops:Array Oper} {o:Oper} {j:Nat} {want:Bool} {x:Tmp} (r:Rel X st hd a w) (hg:o.guard = some (j,want)) (hx:(ops[j]?).bind (·.dst) = some x) {g:Bool} (hw:guardWant st x want = some g) :
  Region.wanted o (yielded ops a.tmps) = g:=by
 unfold Region.wanted
 rw [hg]
 simp only
 unfold yielded
 rw [hx]
 unfold guardWant at hw
 split at hw
 ·rename_i b hb
  have hlt:x < a.tmps.toList.length:=by rw [<- r.slots.1];exact (List.getElem?_eq_some_iff.1 hb).1
  have hv:=(r.slots.2 x _ _ hb (List.getElem?_eq_getElem hlt)).val
  have:a.tmps[x]? = some (.bool b):=by
   rw [<- hv];simp only [Array.length_toList] at hlt;simp [hlt]
  simp only [Option.bind_some,this]
  simp only [Option.some.injEq] at hw
  rw [<- hw]
  cases b <;> cases want <;> rfl
 ·rename_i hb
  have hlt:x < a.tmps.toList.length:=by rw [<- r.slots.1];exact (List.getElem?_eq_some_iff.1 hb).1
  have hv:=r.slots.2 x _ _ hb (List.getElem?_eq_getElem hlt)
  have hv':a.tmps.toList[x] = .tuple #[]:=by
   generalize a.tmps.toList[x] = u at hv
   cases hv with
   | tup l vs hl hh =>
    have:vs = []:=List.eq_nil_of_length_eq_zero hl.symm
    rw [this]
  have:a.tmps[x]? = some (.tuple #[]):=by
   rw [<- hv'];simp only [Array.length_toList] at hlt;simp [hlt]
  simp only [Option.bind_some,this]
  simp only [Option.some.injEq] at hw
  rw [<- hw]
  rfl
 ·cases hw
theorem od_ok (r:Rel X st hd a w) {ops:Array Oper} {o:Oper} {co:CO} {i:Nat} {rd:Option Nat} {n:Nat} {Q:Exit -> Act -> World -> Prop} {K:Act -> World -> Prop} (hi:ops[i]? = some o) (hc:compiled P ops o co) (hs:OD P opn co st st')
  (hK:∀ hd' a' w',Rel X st' hd' a' w' -> K a' w'):wpOpIn (Wd rd) n P ops Q i K a w:=by
 obtain ⟨hdst,hcop,hgd⟩:=hc
 obtain ⟨av,h',hv,rfl⟩:=hs
 unfold wpOpIn
 rw [hi]
 simp only
 unfold OV at hv
 cases hg:o.guard with
 | none =>
  rw [hg] at hgd
  simp only at hgd
  rw [hgd] at hv
  simp only at hv
  have hw:Region.wanted o (yielded ops a.tmps) = true:=by unfold Region.wanted;rw [hg]
  rw [if_pos hw]
  refine op_ok r hcop (st':=⟨putT st.t o.dst av,h'⟩) hv.opS (fun hd' a' w' hr=>?_)
  rw [<- hdst] at hr
  exact hK hd' a' w' hr
 | some jw =>
  obtain ⟨j,want⟩:=jw
  rw [hg] at hgd
  obtain ⟨x,hx,hgd⟩:=hgd
  rw [hgd] at hv
  obtain ⟨g,hgw,h1,h2⟩:=hv
  have hw:=guard_wanted r hg hx hgw
  cases g with
  | true =>
   rw [if_pos hw]
   refine op_ok r hcop (st':=⟨putT st.t o.dst av,h'⟩) (h1 rfl).opS (fun hd' a' w' hr=>?_)
   rw [<- hdst] at hr
   exact hK hd' a' w' hr
  | false =>
   rw [if_neg (by rw [hw];simp)]
   obtain ⟨rfl,rfl⟩:=h2 rfl
   refine ⟨fun f _=>trivial,hK hd _ _ ?_⟩
   rw [hdst]
   exact r.step (grownBy_refl w none) rowOk_none r.heap (Tr.refl _ _ _ _) (.tup [] [] rfl (fun i c v h=>by simp at h))
def tmpsOf (xs:List Operand):List Tmp:=xs.filterMap fun | .tmp t=>some t | _=>none
def names (o:CO):List Tmp:=tmpsOf (opnds o.op) ++ (match o.guard with | some (x,_)=>[x] | none=>[])
theorem ev_agree {t t':List AV} {h:List Blk} {xs:List Operand} (hh:∀ x ∈ tmpsOf xs,t[x]? = t'[x]?):∀ x ∈ xs,(⟨t,h⟩:St).ev x = (⟨t',h⟩:St).ev x:=fun x hx=>by
 cases x with
 | tmp y =>
  have:=hh y (List.mem_filterMap.2 ⟨.tmp y,hx,rfl⟩)
  show t.getD y .junk = t'.getD y .junk
  rw [List.getD,List.getD,this]
 | _=>rfl
theorem OpV.agree {op:COp} {av:AV} (hh:∀ x ∈ tmpsOf (opnds op),t[x]? = t'[x]?) (hv:OpV P opn t h op av h'):OpV P opn t' h op av h':=by
 have ev:=ev_agree (h:=h) hh
 cases op with
 | callf f args =>
  obtain ⟨g,as,hca,hc⟩:=hv
  refine ⟨g,as,?_,hc⟩
  unfold callArgs at hca ⊢
  rw [<- ev f (by simp [opnds])]
  have he:evs ⟨t',h⟩ args = evs ⟨t,h⟩ args:=List.map_congr_left fun x hx=>(ev x (by simp [opnds,hx])).symm
  rw [he]
  exact hca
 | _ =>
  have hv':cstep ⟨t,h⟩ _ = some (av,h'):=hv
  show cstep ⟨t',h⟩ _ = some (av,h')
  rw [<- cstep_congr ev];exact hv'
theorem OV.agree {o:CO} {av:AV} (hh:∀ x ∈ names o,t[x]? = t'[x]?) (hv:OV P opn o t h av h'):OV P opn o t' h av h':=by
 unfold OV at hv ⊢
 unfold names at hh
 cases hg:o.guard with
 | none =>
  rw [hg] at hv hh
  exact OpV.agree (fun x hx=>hh x (by simp [hx])) hv
 | some p =>
  obtain ⟨x,want⟩:=p
  rw [hg] at hv hh
  obtain ⟨g,h1,h2,h3⟩:=hv
  refine ⟨g,?_,fun e=>OpV.agree (fun x hx=>hh x (by simp [hx])) (h2 e),h3⟩
  unfold guardWant at h1 ⊢
  rw [<- hh x (by simp)]
  exact h1
theorem guardWant_heap {x:Tmp} {want:Bool}:guardWant ⟨t,h⟩ x want = guardWant ⟨t,h'⟩ x want:=rfl
theorem callArgs_heap {f:Operand} {args:List Operand}:callArgs ⟨t,h⟩ f args = callArgs ⟨t,h'⟩ f args:=by
 unfold callArgs
 rw [ev_heap t h h' f]
 have:evs ⟨t,h⟩ args = evs ⟨t,h'⟩ args:=List.map_congr_left fun x _=>ev_heap t h h' x
 rw [this]
theorem cls_callf {f:Operand} {args:List Operand}:cls opn (.callf f args) = (if isWrite opn f then .write else if isQuiet opn f then .quiet else .alloc):=by
 cases f <;> simp [cls,isWrite,isQuiet]
theorem OV.pure {o:CO} {av:AV} (hc:cls opn o.op = .pure) (hv:OV P opn o t h av h1):h1 = h /\ ∀ h2,OV P opn o t h2 av h2:=by
 have key:∀ {av h1},OpV P opn t h o.op av h1 -> h1 = h /\ ∀ h2,OpV P opn t h2 o.op av h2:=fun {av h1} hv=>by
  cases ho:o.op with
  | callf f args =>
   rw [ho,cls_callf] at hc
   split at hc
   ·cases hc
   ·split at hc <;> cases hc
  | _ =>
   rw [ho] at hv hc
   obtain ⟨a,b⟩:=pure_heap (opn:=opn) hc hv
   exact ⟨a,b⟩
 unfold OV at hv ⊢
 cases hg:o.guard with
 | none=>rw [hg] at hv;exact key hv
 | some p =>
  rw [hg] at hv
  obtain ⟨g,h1',h2',h3⟩:=hv
  cases g with
  | true =>
   obtain ⟨e,hk⟩:=key (h2' rfl)
   exact ⟨e,fun h2=>⟨true,h1',fun _=>hk h2,fun e=>by cases e⟩⟩
  | false =>
   obtain ⟨rfl,rfl⟩:=h3 rfl
   exact ⟨rfl,fun h2=>⟨false,h1',(fun e=>by cases e),fun _=>⟨rfl,rfl⟩⟩⟩
theorem OV.read {o:CO} {av:AV} (hc:cls opn o.op = .read) (hS:Sim h h') :
  ∀ h1,OV P opn o t h av h1 -> h1 = h /\ OV P opn o t h' av h':=by
 have up:∀ {av h1},OpV P opn t h o.op av h1 -> h1 = h /\ OpV P opn t h' o.op av h':=fun {av h1} hv=>by
  cases ho:o.op with
  | callf f args =>
   rw [ho,cls_callf] at hc
   split at hc
   ·cases hc
   ·split at hc <;> cases hc
  | _ =>
   rw [ho] at hv hc
   exact (read_sim (opn:=opn) hc hS).1 h1 hv
 unfold OV
 cases hg:o.guard with
 | none=>exact fun h1 hv=>up hv
 | some p =>
  intro h1 hv
  obtain ⟨g,h1',h2',h3⟩:=hv
  cases g with
  | true=>obtain ⟨e,hk⟩:=up (h2' rfl);exact ⟨e,true,h1',fun _=>hk,fun e=>by cases e⟩
  | false=>obtain ⟨rfl,rfl⟩:=h3 rfl;exact ⟨rfl,false,h1',(fun e=>by cases e),fun _=>⟨rfl,rfl⟩⟩
theorem OV.read_down {o:CO} {av:AV} (hc:cls opn o.op = .read) (hS:Bmp h h') :
  ∀ h1,(∀ x ∈ opnds o.op,ScopedV h ((⟨t,h⟩:St).ev x)) -> OV P opn o t h' av h1 -> h1 = h' /\ OV P opn o t h av h:=by
 have down:∀ {av h1},(∀ x ∈ opnds o.op,ScopedV h ((⟨t,h⟩:St).ev x)) -> OpV P opn t h' o.op av h1 -> h1 = h' /\ OpV P opn t h o.op av h:=fun {av h1} hsc hv=>by
  cases ho:o.op with
  | callf f args =>
   rw [ho,cls_callf] at hc
   split at hc
   ·cases hc
   ·split at hc <;> cases hc
  | _ =>
   rw [ho] at hv hc hsc
   exact read_bmp (opn:=opn) hc hS hsc hv
 unfold OV
 cases hg:o.guard with
 | none=>exact fun h1 hsc hv=>down hsc hv
 | some p =>
  intro h1 hsc hv
  obtain ⟨g,h1',h2',h3⟩:=hv
  cases g with
  | true=>obtain ⟨e,hk⟩:=down hsc (h2' rfl);exact ⟨e,true,h1',fun _=>hk,fun e=>by cases e⟩
  | false=>obtain ⟨rfl,rfl⟩:=h3 rfl;exact ⟨rfl,false,h1',(fun e=>by cases e),fun _=>⟨rfl,rfl⟩⟩
theorem OV.alloc {o:CO} {av:AV} (hc:cls opn o.op = .alloc \/ cls opn o.op = .quiet) (hv:OV P opn o t h av h1):Sim h h1:=by
 have key:∀ {av h1},OpV P opn t h o.op av h1 -> Sim h h1:=fun {av h1} hv=>by
  cases ho:o.op with
  | callf f args =>
   rw [ho] at hv hc
   rw [cls_callf] at hc
   obtain ⟨g,as,hca,⟨cas,r,_,_,he⟩ | ⟨hw,_⟩ | ⟨_,he,_⟩⟩:=hv
   ·have:h1 = (pureRes h (as.map (usedAV h 3)).flatten r).2:=by rw [<- he]
    rw [this]
    exact pureRes_sim h _ r
   ·rw [if_pos hw] at hc;rcases hc with hc | hc <;> cases hc
   ·rw [he];exact Sim.refl h
  | new ty zs =>
   rw [ho] at hv
   simp only [OpV,cstep,Option.some.injEq,Prod.mk.injEq] at hv
   rw [<- hv.2];exact Sim.append _ _
  | box ty x =>
   rw [ho] at hv
   simp only [OpV,cstep,Option.map_eq_some_iff,Prod.mk.injEq] at hv
   obtain ⟨_,_,_,rfl⟩:=hv
   exact Sim.append _ _
  | mkrow ty e ps =>
   rw [ho] at hv
   simp only [OpV,cstep,Option.map_eq_some_iff,Prod.mk.injEq] at hv
   obtain ⟨_,_,_,rfl⟩:=hv
   exact Sim.append _ _
  | make ty e b zs l c =>
   rw [ho] at hv
   simp only [OpV,cstep] at hv
   split at hv
   ·split at hv
    ·simp only [Option.some.injEq,Prod.mk.injEq] at hv
     rw [<- hv.2];exact Sim.append _ _
    ·cases hv
   ·cases hv
  | append ty e b x y=>rw [ho] at hc;simp only [cls] at hc;split at hc <;> rcases hc with hc | hc <;> cases hc
  | _=>rw [ho] at hc;simp [cls] at hc
 unfold OV at hv
 cases hg:o.guard with
 | none=>rw [hg] at hv;exact key hv
 | some p =>
  rw [hg] at hv
  obtain ⟨g,h1',h2',h3⟩:=hv
  cases g with
  | true=>exact key (h2' rfl)
  | false=>obtain ⟨_,rfl⟩:=h3 rfl;exact Sim.refl _
theorem OV.app {o:CO} {av:AV} (hc:cls opn o.op = .app) (hv:OV P opn o t h av h1):Bmp h h1:=by
 have key:∀ {av h1},OpV P opn t h o.op av h1 -> Bmp h h1:=fun {av h1} hv=>by
  cases ho:o.op with
  | append ty e b' x y =>
   rw [ho] at hv
   simp only [OpV,cstep,Option.bind_eq_some_iff] at hv
   obtain ⟨ys,_,hv⟩:=hv
   split at hv
   ·rename_i b ver hev
    split at hv
    ·rename_i k hk
     split at hv
     ·simp only [Option.some.injEq,Prod.mk.injEq] at hv
      rw [<- hv.2]
      intro i ki hki
      by_cases he:i = b
      ·subst he
       rw [hk] at hki
       cases hki
       exact .inr ⟨_,List.getElem?_set_self (List.getElem?_eq_some_iff.1 hk).1,Nat.lt_succ_self _⟩
      ·exact .inl ⟨ki.live,by rw [List.getElem?_set_ne (fun e=>he e.symm)];exact hki⟩
     ·cases hv
    ·cases hv
   ·split at hv
    ·simp only [Option.some.injEq,Prod.mk.injEq] at hv
     rw [<- hv.2];exact (Sim.append _ _).bmp
    ·cases hv
   ·split at hv
    ·simp only [Option.some.injEq,Prod.mk.injEq] at hv
     rw [<- hv.2];exact (Sim.append _ _).bmp
    ·cases hv
   ·cases hv
  | callf f args =>
   rw [ho,cls_callf] at hc
   split at hc
   ·cases hc
   ·split at hc <;> cases hc
  | _=>rw [ho] at hc;simp [cls] at hc
 unfold OV at hv
 cases hg:o.guard with
 | none=>rw [hg] at hv;exact key hv
 | some p =>
  rw [hg] at hv
  obtain ⟨g,h1',h2',h3⟩:=hv
  cases g with
  | true=>exact key (h2' rfl)
  | false=>obtain ⟨_,rfl⟩:=h3 rfl;exact Bmp.refl _
theorem putT_get {dst:Option Tmp} {av:AV} {x:Tmp} (hne:dst ≠ some x):(putT t dst av)[x]? = t[x]?:=by
 cases dst with
 | none=>rfl
 | some d=>exact List.getElem?_set_ne (fun e=>hne (by rw [e]))
theorem putT_comm {d1 d2:Option Tmp} {v1 v2:AV} (hne:∀ d,d1 = some d -> d2 ≠ some d):putT (putT t d1 v1) d2 v2 = putT (putT t d2 v2) d1 v1:=by
 cases d1 with
 | none=>rfl
 | some d =>
  cases d2 with
  | none=>rfl
  | some e=>exact List.set_comm _ _ (fun he=>hne d rfl (by rw [he]))
theorem RunD.slots:∀ {pre:List CO} {st sp:St},RunD P opn pre st sp -> ∀ (x:Tmp),(∀ p ∈ pre,p.dst ≠ some x) -> sp.t[x]? = st.t[x]?
 | [],st,sp,hr,x,_=>by cases hr;rfl
 | p :: pre,st,sp,hr0,x,hx=>by
  obtain ⟨s1,⟨av,h1,_,rfl⟩,hr⟩:=hr0
  rw [RunD.slots hr x (fun q hq=>hx q (by simp [hq]))]
  exact putT_get (hx p (by simp))
theorem RunD.frame {d:Option Tmp} {v:AV}:∀ {pre:List CO} {st sp:St},RunD P opn pre st sp -> (∀ p ∈ pre,∀ x,d = some x -> x ∉ names p /\ p.dst ≠ some x) -> RunD P opn pre ⟨putT st.t d v,st.h⟩ ⟨putT sp.t d v,sp.h⟩
 | [],st,sp,hr,_=>by cases hr;rfl
 | p :: pre,st,sp,hr0,hx=>by
  obtain ⟨s1,⟨av,h1,hv,rfl⟩,hr⟩:=hr0
  refine ⟨⟨putT (putT st.t p.dst av) d v,h1⟩,⟨av,h1,?_,?_⟩,RunD.frame hr (fun q hq=>hx q (by simp [hq]))⟩
  ·refine OV.agree (fun y hy=>?_) hv
   exact (putT_get (fun e=>(hx p (by simp) y e).1 hy)).symm
  ·have:=putT_comm (t:=st.t) (d1:=p.dst) (d2:=d) (v1:=av) (v2:=v) (fun x hpx hdx=>(hx p (by simp) x hdx).2 hpx)
   simp only [this]
theorem RunD.bmp:∀ {pre:List CO} {st sp:St},RunD P opn pre st sp -> (∀ p ∈ pre,cls opn p.op ≠ .write /\ cls opn p.op ≠ .fill) -> Bmp st.h sp.h
 | [],st,sp,hr,_=>by cases hr;exact Bmp.refl _
 | p :: pre,st,sp,hr0,hx=>by
  obtain ⟨s1,⟨av,h1,hv,rfl⟩,hr⟩:=hr0
  refine Bmp.trans (h1:=h1) ?_ (RunD.bmp (st:=⟨putT st.t p.dst av,h1⟩) hr (fun q hq=>hx q (by simp [hq])))
  cases hc:cls opn p.op with
  | pure=>rw [(OV.pure hc hv).1];exact Bmp.refl _
  | read=>rw [(OV.read hc (Sim.refl _) _ hv).1];exact Bmp.refl _
  | alloc=>exact (OV.alloc (.inl hc) hv).bmp
  | quiet=>exact (OV.alloc (.inr hc) hv).bmp
  | app=>exact OV.app hc hv
  | write=>exact absurd hc (hx p (by simp)).1
  | fill=>exact absurd hc (hx p (by simp)).2
theorem RunD.heap:∀ {pre:List CO} {st sp:St} {h':List Blk},RunD P opn pre st sp -> ((∀ p ∈ pre,cls opn p.op = .pure) \/ ((∀ p ∈ pre,cls opn p.op = .pure \/ cls opn p.op = .read) /\ Sim st.h h')) -> sp.h = st.h /\ RunD P opn pre ⟨st.t,h'⟩ ⟨sp.t,h'⟩
 | [],st,sp,h',hr,_=>by cases hr;exact ⟨rfl,rfl⟩
 | p :: pre,st,sp,h',hr0,hx=>by
  obtain ⟨s1,⟨av,h1,hv,rfl⟩,hr⟩:=hr0
  have step:h1 = st.h /\ OV P opn p st.t h' av h':=by
   rcases hx with hx | ⟨hx,hS⟩
   ·obtain ⟨e,hk⟩:=OV.pure (hx p (by simp)) hv
    exact ⟨e,hk h'⟩
   ·rcases hx p (by simp) with hc | hc
    ·obtain ⟨e,hk⟩:=OV.pure hc hv
     exact ⟨e,hk h'⟩
    ·exact OV.read hc hS _ hv
  obtain ⟨rfl,hk⟩:=step
  have ih:=RunD.heap (h':=h') (st:=⟨putT st.t p.dst av,st.h⟩) hr (by
   rcases hx with hx | ⟨hx,hS⟩
   ·exact .inl (fun q hq=>hx q (by simp [hq]))
   ·exact .inr ⟨fun q hq=>hx q (by simp [hq]),hS⟩)
  exact ⟨ih.1,_,⟨av,h',hk,rfl⟩,ih.2⟩
def isPh (k:Blk):Prop:=k.e = 0 /\ k.ver = 0 /\ k.live = true /\ k.nn = false /\ k.els = []
theorem phIdx_spec:∀ {h:List Blk} {b:Nat},phIdx h = some b -> ∃ k,h[b]? = some k /\ isPh k /\ ∀ i k',i < b -> h[i]? = some k' -> ¬ isPh k'
 | [],b,hh=>by simp [phIdx] at hh
 | k :: h,b,hh=>by
  unfold phIdx at hh
  split at hh
  ·rename_i hk
   simp only [Option.some.injEq] at hh
   subst hh
   exact ⟨k,rfl,hk,fun i k' hi=>by omega⟩
  ·rename_i hk
   simp only [Option.map_eq_some_iff] at hh
   obtain ⟨b',hb',rfl⟩:=hh
   obtain ⟨k0,h1,h2,h3⟩:=phIdx_spec hb'
   refine ⟨k0,by simpa using h1,h2,fun i k' hi hk'=>?_⟩
   cases i with
   | zero=>simp at hk';subst hk';exact hk
   | succ i=>exact h3 i k' (by omega) (by simpa using hk')
theorem phIdx_of:∀ {h:List Blk} {b:Nat} {k:Blk},h[b]? = some k -> isPh k -> (∀ i k',i < b -> h[i]? = some k' -> ¬ isPh k') -> phIdx h = some b
 | [],b,k,hb,_,_=>by simp at hb
 | k0 :: h,0,k,hb,hk,_=>by
  simp at hb
  subst hb
  unfold phIdx
  exact if_pos hk
 | k0 :: h,b + 1,k,hb,hk,hn=>by
  have h0:=hn 0 k0 (by omega) rfl
  have h1:=phIdx_of (h:=h) (b:=b) (by simpa using hb) hk (fun i k' hi hk'=>hn (i + 1) k' (by omega) (by simpa using hk'))
  unfold phIdx
  refine (if_neg h0).trans ?_
  rw [h1]
  rfl
theorem readN_set {b:Nat} {k0 K:Blk} (hk0:h[b]? = some k0) (hl:k0.els = []) {n:Nat} {x:AV} {cs:List Cell} (hr:readN h n x = some cs):readN (h.set b K) n x = some cs:=by
 revert hr
 unfold readN
 split
 ·rename_i b' ver i off
  intro hr
  have hne:b ≠ b':=by rintro rfl;simp [hk0,hl] at hr
  rw [List.getElem?_set_ne hne];exact hr
 ·exact fun h=>h
 ·exact fun h=>h
theorem elems_set {b:Nat} {k0 K:Blk} (hk0:h[b]? = some k0) (h0:k0.e = 0) {e:Nat} (he:e ≠ 0) {x:AV} {cs:List (List Cell)} (hr:elems h e x = some cs):elems (h.set b K) e x = some cs:=by
 revert hr
 unfold elems
 split
 ·rename_i b' ver
  intro hr
  have hne:b ≠ b':=by rintro rfl;simp only [hk0] at hr;rw [if_neg (by omega)] at hr;cases hr
  rw [List.getElem?_set_ne hne];exact hr
 all_goals exact fun h=>h
theorem lenAV_set {b:Nat} {k0 K:Blk} (hk0:h[b]? = some k0) (h0:k0.e = 0) {s:Bool} {x:AV} {n:Nat} (hr:lenAV h s x = some n):lenAV (h.set b K) s x = some n:=by
 revert hr
 unfold lenAV
 split
 ·rename_i b' ver
  intro hr
  have hne:b ≠ b':=by
   rintro rfl
   simp only [hk0] at hr
   rw [if_neg (show ¬ (ver = k0.ver /\ 0 < k0.e) by omega)] at hr
   split at hr <;> cases hr
  rw [List.getElem?_set_ne hne];exact hr
 all_goals exact fun h=>h
theorem isNilAV_set {b:Nat} {k0 K:Blk} (hk0:h[b]? = some k0) (h0:k0.e = 0) {s:Bool} {x:AV} {n:Bool} (hr:isNilAV h s x = some n):isNilAV (h.set b K) s x = some n:=by
 revert hr
 unfold isNilAV
 split
 ·exact fun h=>h
 ·exact fun h=>h
 ·exact fun h=>h
 ·rename_i b' ver
  intro hr
  have hne:b ≠ b':=by
   rintro rfl
   simp only [hk0] at hr
   rw [if_neg (show ¬ (ver = k0.ver /\ 0 < k0.e) by omega)] at hr
   split at hr <;> cases hr
  rw [List.getElem?_set_ne hne];exact hr
 all_goals exact fun h=>h
theorem mapM_some_mem {α β:Type} {f:α -> Option β}:∀ {l:List α} {r:List β},l.mapM f = some r -> ∀ a ∈ l,∃ b,f a = some b
 | [],_,_,a,ha=>by simp at ha
 | x :: l,r,h,a,ha=>by
  rw [List.mapM_cons] at h
  simp only [Option.bind_eq_bind,Option.pure_def] at h
  cases hf:f x with
  | none=>simp [hf] at h
  | some y =>
   cases hr:l.mapM f with
   | none=>simp [hf,hr] at h
   | some rs =>
    rcases List.mem_cons.1 ha with rfl | ha
    ·exact ⟨y,hf⟩
    ·exact mapM_some_mem hr a ha
theorem closeCV_set {b:Nat} {k0 K:Blk} (hk0:h[b]? = some k0) (h0:k0.e = 0):∀ (n:Nat) (c:Cell) (x:CV),closeCV h n c = some x -> closeCV (h.set b K) n c = some x /\ usedCV (h.set b K) n c = usedCV h n c /\ b ∉ usedCV h n c
 | n,.c y,x,hc=>by cases n <;> exact ⟨hc,rfl,by simp [usedCV]⟩
 | n,.slx e l,x,hc=>by cases n <;> exact ⟨hc,rfl,by simp [usedCV]⟩
 | 0,.own b' ver,x,hc=>by simp [closeCV] at hc
 | 0,.ptr ..,x,hc=>by simp [closeCV] at hc
 | 0,.iptr _,x,hc=>by simp [closeCV] at hc
 | 0,.fn f [],x,hc=>⟨hc,rfl,by simp [usedCV]⟩
 | 0,.fn f (_ :: _),x,hc=>by simp [closeCV] at hc
 | 0,.mfn _ _,x,hc=>by simp [closeCV] at hc
 | 0,.junk,x,hc=>by simp [closeCV] at hc
 | n + 1,.ptr ..,x,hc=>by simp [closeCV] at hc
 | n + 1,.iptr _,x,hc=>by simp [closeCV] at hc
 | n + 1,.fn f [],x,hc=>⟨hc,rfl,by simp [usedCV]⟩
 | n + 1,.fn f (_ :: _),x,hc=>by simp [closeCV] at hc
 | n + 1,.mfn _ _,x,hc=>by simp [closeCV] at hc
 | n + 1,.junk,x,hc=>by simp [closeCV] at hc
 | n + 1,.own b' ver,x,hc=>by
  have hne:b ≠ b':=by
   rintro rfl
   simp only [closeCV,hk0] at hc
   rw [if_neg (by omega)] at hc
   cases hc
  simp only [closeCV] at hc ⊢
  simp only [usedCV]
  rw [List.getElem?_set_ne hne]
  cases hk:h[b']? with
  | none=>simp [hk] at hc
  | some k =>
   simp only [hk] at hc ⊢
   split at hc
   ·rename_i hv
    rw [if_pos hv]
    by_cases hn:k.nn = true
    ·rw [if_pos hn] at hc
     rw [if_pos hn,if_pos hn,if_pos hn]
     simp only [Option.map_eq_some_iff] at hc
     obtain ⟨l,hm,rfl⟩:=hc
     have cell:∀ r ∈ k.els,∀ c ∈ r,closeCV (h.set b K) n c = closeCV h n c /\ usedCV (h.set b K) n c = usedCV h n c /\ b ∉ usedCV h n c:=fun r hr c hcr=>by
      obtain ⟨r',hr'⟩:=mapM_some_mem hm r hr
      obtain ⟨y,hy⟩:=mapM_some_mem hr' c hcr
      obtain ⟨a1,a2,a3⟩:=closeCV_set hk0 h0 n c y hy
      exact ⟨by rw [a1,hy],a2,a3⟩
     refine ⟨?_,?_,?_⟩
     ·rw [mapM_congr' k.els (fun r hr=>mapM_congr' r (fun c hcr=>(cell r hr c hcr).1)),hm];rfl
     ·congr 1
      congr 1
      refine List.map_congr_left (fun r hr=>?_)
      congr 1
      exact List.map_congr_left (fun c hcr=>(cell r hr c hcr).2.1)
     ·intro hm'
      rcases List.mem_cons.1 hm' with e | hm'
      ·exact hne e
      ·obtain ⟨l1,hl1,hm''⟩:=List.mem_flatten.1 hm'
       obtain ⟨r,hr,rfl⟩:=List.mem_map.1 hl1
       obtain ⟨l2,hl2,hm3⟩:=List.mem_flatten.1 hm''
       obtain ⟨c,hcr,rfl⟩:=List.mem_map.1 hl2
       exact (cell r hr c hcr).2.2 hm3
    ·rw [if_neg hn] at hc
     rw [if_neg hn,if_neg hn,if_neg hn]
     exact ⟨hc,rfl,by simpa using hne⟩
   ·cases hc
theorem closeCell_set {b:Nat} {k0 K:Blk} (hk0:h[b]? = some k0) (h0:k0.e = 0) (hl:k0.els = []) (n:Nat) (c x:Cell) (hc:closeCell h n c = some x):closeCell (h.set b K) n c = some x /\ usedCell (h.set b K) n c = usedCell h n c /\ b ∉ usedCell h n c:=by
 have base:∀ (c:Cell),(∀ b' v i o,c ≠ .ptr b' v i o) -> (∀ l,c ≠ .iptr l) -> (∀ e l,c ≠ .slx e l) -> (closeCV h n c).map Cell.c = some x -> (closeCV (h.set b K) n c).map Cell.c = some x /\ usedCV (h.set b K) n c = usedCV h n c /\ b ∉ usedCV h n c:=fun c _ _ _ hc=>by
  simp only [Option.map_eq_some_iff] at hc
  obtain ⟨y,hy,rfl⟩:=hc
  obtain ⟨a1,a2,a3⟩:=closeCV_set (K:=K) hk0 h0 n c y hy
  exact ⟨by rw [a1];rfl,a2,a3⟩
 cases c with
 | iptr l=>exact ⟨hc,by cases n <;> rfl,by cases n <;> simp [usedCell,usedCV]⟩
 | slx e l=>exact ⟨hc,by cases n <;> rfl,by cases n <;> simp [usedCell,usedCV]⟩
 | ptr b' ver i off =>
  simp only [closeCell] at hc
  have hne:b ≠ b':=by
   rintro rfl
   simp [hk0,hl] at hc
  simp only [closeCell,usedCell]
  rw [List.getElem?_set_ne hne]
  cases hk:h[b']? with
  | none=>simp [hk] at hc
  | some k =>
   simp only [hk] at hc ⊢
   split at hc
   ·rename_i hv
    rw [if_pos hv]
    cases hi:k.els[i]? with
    | none=>simp [hi] at hc
    | some r =>
     simp only [hi,Option.map_eq_some_iff] at hc ⊢
     obtain ⟨l,hm,rfl⟩:=hc
     have cell:∀ c ∈ r.drop off,closeCV (h.set b K) n c = closeCV h n c /\ usedCV (h.set b K) n c = usedCV h n c /\ b ∉ usedCV h n c:=fun c hcr=>by
      obtain ⟨y,hy⟩:=mapM_some_mem hm c hcr
      obtain ⟨a1,a2,a3⟩:=closeCV_set (K:=K) hk0 h0 n c y hy
      exact ⟨by rw [a1,hy],a2,a3⟩
     refine ⟨⟨l,by rw [mapM_congr' _ (fun c hcr=>(cell c hcr).1),hm],rfl⟩,?_,?_⟩
     ·congr 1
      congr 1
      exact List.map_congr_left (fun c hcr=>(cell c hcr).2.1)
     ·intro hm'
      rcases List.mem_cons.1 hm' with e | hm'
      ·exact hne e
      ·obtain ⟨l2,hl2,hm3⟩:=List.mem_flatten.1 hm'
       obtain ⟨c,hcr,rfl⟩:=List.mem_map.1 hl2
       exact (cell c hcr).2.2 hm3
   ·cases hc
 | c y=>exact base (.c y) (by simp) (by simp) (by simp) hc
 | own b' v=>exact base (.own b' v) (by simp) (by simp) (by simp) hc
 | fn f l=>exact base (.fn f l) (by simp) (by simp) (by simp) hc
 | mfn f l=>exact base (.mfn f l) (by simp) (by simp) (by simp) hc
 | junk=>exact base .junk (by simp) (by simp) (by simp) hc
theorem cells_set {b:Nat} {k0 K:Blk} (hk0:h[b]? = some k0) (h0:k0.e = 0) (hl:k0.els = []) (n:Nat) {l l':List Cell} (hc:l.mapM (closeCell h n) = some l'):l.mapM (closeCell (h.set b K) n) = some l' /\ (l.map (usedCell (h.set b K) n)).flatten = (l.map (usedCell h n)).flatten /\ b ∉ (l.map (usedCell h n)).flatten:=by
 have cell:∀ c ∈ l,closeCell (h.set b K) n c = closeCell h n c /\ usedCell (h.set b K) n c = usedCell h n c /\ b ∉ usedCell h n c:=fun c hcr=>by
  obtain ⟨y,hy⟩:=mapM_some_mem hc c hcr
  obtain ⟨a1,a2,a3⟩:=closeCell_set (K:=K) hk0 h0 hl n c y hy
  exact ⟨by rw [a1,hy],a2,a3⟩
 refine ⟨by rw [mapM_congr' _ (fun c hcr=>(cell c hcr).1),hc],?_,?_⟩
 ·congr 1
  exact List.map_congr_left (fun c hcr=>(cell c hcr).2.1)
 ·intro hm'
  obtain ⟨l2,hl2,hm3⟩:=List.mem_flatten.1 hm'
  obtain ⟨c,hcr,rfl⟩:=List.mem_map.1 hl2
  exact (cell c hcr).2.2 hm3
theorem closeAV_set {b:Nat} {k0 K:Blk} (hk0:h[b]? = some k0) (h0:k0.e = 0) (hl:k0.els = []) (n:Nat) (c x:AV) (hc:closeAV h n c = some x):closeAV (h.set b K) n c = some x /\ usedAV (h.set b K) n c = usedAV h n c /\ b ∉ usedAV h n c:=by
 cases c with
 | one c =>
  simp only [closeAV,Option.map_eq_some_iff] at hc
  obtain ⟨y,hy,rfl⟩:=hc
  have base:closeCell h n c = some y -> (∀ f l,c ≠ .fn f l) -> closeFn h n c = closeCell h n c -> (closeFn (h.set b K) n c = closeCell (h.set b K) n c) -> usedFn h n c = usedCell h n c -> usedFn (h.set b K) n c = usedCell (h.set b K) n c ->
    closeAV (h.set b K) n (.one c) = some (.one y) /\ usedAV (h.set b K) n (.one c) = usedAV h n (.one c) /\ b ∉ usedAV h n (.one c):=fun h1 _ h2 h3 h4 h5=>by
   obtain ⟨a1,a2,a3⟩:=closeCell_set (K:=K) hk0 h0 hl n c y h1
   simp only [closeAV,usedAV,h3,h4,h5,a1,a2,Option.map_some]
   exact ⟨trivial,trivial,a3⟩
  cases c with
  | fn f caps =>
   simp only [closeFn,Option.map_eq_some_iff] at hy
   obtain ⟨cs,hcs,rfl⟩:=hy
   obtain ⟨a1,a2,a3⟩:=cells_set (K:=K) hk0 h0 hl n hcs
   simp only [closeAV,closeFn,usedAV,usedFn,a1,a2,Option.map_some]
   exact ⟨trivial,trivial,a3⟩
  | c z=>exact base hy (by simp) rfl rfl rfl rfl
  | own b' v=>exact base hy (by simp) rfl rfl rfl rfl
  | ptr b' v i o=>exact base hy (by simp) rfl rfl rfl rfl
  | iptr l=>exact base hy (by simp) rfl rfl rfl rfl
  | slx e l=>exact base hy (by simp) rfl rfl rfl rfl
  | mfn f l=>exact base hy (by simp) rfl rfl rfl rfl
  | junk=>exact base hy (by simp) rfl rfl rfl rfl
 | agg l =>
  simp only [closeAV,Option.map_eq_some_iff] at hc
  obtain ⟨cs,hcs,rfl⟩:=hc
  obtain ⟨a1,a2,a3⟩:=cells_set (K:=K) hk0 h0 hl n hcs
  simp only [closeAV,usedAV,a1,a2,Option.map_some]
  exact ⟨trivial,trivial,a3⟩
 | tup l=>simp [closeAV] at hc
 | junk=>simp [closeAV] at hc
theorem args_set {b:Nat} {k0 K:Blk} (hk0:h[b]? = some k0) (h0:k0.e = 0) (hl:k0.els = []) (n:Nat) {l l':List AV} (hc:l.mapM (closeAV h n) = some l'):l.mapM (closeAV (h.set b K) n) = some l' /\ (l.map (usedAV (h.set b K) n)).flatten = (l.map (usedAV h n)).flatten /\ b ∉ (l.map (usedAV h n)).flatten:=by
 have cell:∀ c ∈ l,closeAV (h.set b K) n c = closeAV h n c /\ usedAV (h.set b K) n c = usedAV h n c /\ b ∉ usedAV h n c:=fun c hcr=>by
  obtain ⟨y,hy⟩:=mapM_some_mem hc c hcr
  obtain ⟨a1,a2,a3⟩:=closeAV_set (K:=K) hk0 h0 hl n c y hy
  exact ⟨by rw [a1,hy],a2,a3⟩
 refine ⟨by rw [mapM_congr' _ (fun c hcr=>(cell c hcr).1),hc],?_,?_⟩
 ·congr 1
  exact List.map_congr_left (fun c hcr=>(cell c hcr).2.1)
 ·intro hm'
  obtain ⟨l2,hl2,hm3⟩:=List.mem_flatten.1 hm'
  obtain ⟨c,hcr,rfl⟩:=List.mem_map.1 hl2
  exact (cell c hcr).2.2 hm3
theorem freeze_set {ids:List Nat} {b:Nat} {K:Blk} (hb:b ∉ ids):freeze ids (h.set b K) = (freeze ids h).set b K:=by
 apply List.ext_getElem?
 intro i
 rw [freeze_get,List.getElem?_set,List.getElem?_set,freeze_get]
 have hc:ids.contains b = false:=by simpa using hb
 by_cases e:b = i
 ·subst e
  simp only [if_true,hc]
  by_cases hlt:b < h.length
  ·simp [hlt,freeze]
  ·simp [hlt,freeze]
 ·simp only [if_neg e]
theorem phIdx_freeze {ids:List Nat} {b:Nat} (hp:phIdx h = some b) (hb:b ∉ ids):phIdx (freeze ids h) = some b:=by
 obtain ⟨k,h1,h2,h3⟩:=phIdx_spec hp
 have hc:ids.contains b = false:=by simpa using hb
 refine phIdx_of (k:=k) (by rw [freeze_get,h1];simp only [Option.map_some,hc,Bool.false_eq_true,if_false]) h2 (fun i k' hi hk'=>?_)
 rw [freeze_get] at hk'
 cases hq:h[i]? with
 | none=>simp [hq] at hk'
 | some q =>
  simp only [hq,Option.map_some,Option.some.injEq] at hk'
  intro hph
  by_cases hci:ids.contains i = true
  ·rw [if_pos hci] at hk'
   rw [<- hk'] at hph
   exact Bool.noConfusion hph.2.2.1
  ·rw [if_neg hci] at hk'
   subst hk'
   exact h3 i q hi hq hph
theorem phIdx_append {ks:List Blk} {b:Nat} (hp:phIdx h = some b):phIdx (h ++ ks) = some b:=by
 obtain ⟨k,h1,h2,h3⟩:=phIdx_spec hp
 have hlt:=(List.getElem?_eq_some_iff.1 h1).1
 exact phIdx_of (k:=k) (by rw [List.getElem?_append_left hlt];exact h1) h2 (fun i k' hi hk'=>h3 i k' hi (by rw [List.getElem?_append_left (by omega)] at hk';exact hk'))
theorem phIdx_set {b b':Nat} {K:Blk} (hp:phIdx h = some b) (hne:b ≠ b') (hK:K.e ≠ 0):phIdx (h.set b' K) = some b:=by
 obtain ⟨k,h1,h2,h3⟩:=phIdx_spec hp
 refine phIdx_of (k:=k) (by rw [List.getElem?_set_ne (fun e=>hne e.symm)];exact h1) h2 (fun i k' hi hk'=>?_)
 rw [List.getElem?_set] at hk'
 split at hk'
 ·split at hk'
  ·simp only [Option.some.injEq] at hk';subst hk';exact fun hph=>hK hph.1
  ·cases hk'
 ·exact h3 i k' hi hk'
theorem pureRes_set {ids:List Nat} {b:Nat} {K:Blk} {r:Ret} (hp:phIdx h = some b) (hb:b ∉ ids):phIdx (pureRes h ids r).2 = some b /\ pureRes (h.set b K) ids r = ((pureRes h ids r).1,(pureRes h ids r).2.set b K):=by
 obtain ⟨k,h1,_,_⟩:=phIdx_spec hp
 have hlt:=(List.getElem?_eq_some_iff.1 h1).1
 cases r with
 | ret av =>
  simp only [pureRes]
  split
  ·exact ⟨hp,rfl⟩
  ·exact ⟨phIdx_freeze hp hb,by rw [freeze_set hb]⟩
 | fresh ty e l nn =>
  simp only [pureRes]
  refine ⟨phIdx_append (phIdx_freeze hp hb),?_⟩
  rw [freeze_set hb,List.length_set,List.set_append_left _ _ (by simpa [freeze] using hlt)]
theorem OV.fill_up {o:CO} {av:AV} {b:Nat} (hc:cls opn o.op = .pure \/ cls opn o.op = .read \/ cls opn o.op = .alloc \/ cls opn o.op = .app) (hp:phIdx h = some b) (hv:OV P opn o t h av h1) :
  phIdx h1 = some b /\ ∀ K,OV P opn o t (h.set b K) av (h1.set b K):=by
 obtain ⟨k0,hk0,hph,_⟩:=phIdx_spec hp
 have h0:=hph.1
 have hl:=hph.2.2.2.2
 have hlt:=(List.getElem?_eq_some_iff.1 hk0).1
 have ev:∀ K x,(⟨t,h.set b K⟩:St).ev x = (⟨t,h⟩:St).ev x:=fun K x=>ev_heap t _ h x
 have key:∀ {av h1},OpV P opn t h o.op av h1 -> phIdx h1 = some b /\ ∀ K,OpV P opn t (h.set b K) o.op av (h1.set b K):=fun {av h1} hv=>by
  cases ho:o.op with
  | callf f args =>
   rw [ho] at hv hc
   obtain ⟨g,as,hca,⟨cas,r,hm,hpc,he⟩ | ⟨hw,_⟩ | ⟨hw,_⟩⟩:=hv
   ·have hset:=fun K=>args_set (K:=K) hk0 h0 hl 3 hm
    have hbn:=(hset k0).2.2
    have hr:=fun K=>pureRes_set (K:=K) (r:=r) hp hbn
    have e1:h1 = (pureRes h (as.map (usedAV h 3)).flatten r).2:=by rw [<- he]
    have e2:av = (pureRes h (as.map (usedAV h 3)).flatten r).1:=by rw [<- he]
    refine ⟨by rw [e1];exact (hr k0).1,fun K=>⟨g,as,by rw [<- hca];exact callArgs_heap,.inl ⟨cas,r,(hset K).1,hpc,?_⟩⟩⟩
    rw [(hset K).2.1,(hr K).2,<- e1,<- e2]
   ·rw [cls_callf,if_pos hw] at hc
    rcases hc with hc | hc | hc | hc <;> cases hc
   ·rw [cls_callf,if_pos hw] at hc
    split at hc <;> rcases hc with hc | hc | hc | hc <;> cases hc
  | new ty zs =>
   rw [ho] at hv
   simp only [OpV,cstep,Option.some.injEq,Prod.mk.injEq] at hv ⊢
   obtain ⟨rfl,rfl⟩:=hv
   exact ⟨phIdx_append hp,fun K=>⟨by rw [List.length_set],by rw [List.set_append_left _ _ hlt]⟩⟩
  | box ty x =>
   rw [ho] at hv
   simp only [OpV,cstep,Option.map_eq_some_iff,Prod.mk.injEq] at hv ⊢
   obtain ⟨cs,hcs,rfl,rfl⟩:=hv
   exact ⟨phIdx_append hp,fun K=>⟨cs,by rw [ev];exact hcs,by rw [List.length_set],by rw [List.set_append_left _ _ hlt]⟩⟩
  | mkrow ty e ps =>
   rw [ho] at hv
   simp only [OpV,cstep,Option.map_eq_some_iff,Prod.mk.injEq] at hv ⊢
   obtain ⟨cs,hcs,rfl,rfl⟩:=hv
   exact ⟨phIdx_append hp,fun K=>⟨cs,by simp only [ev K];exact hcs,by rw [List.length_set],by rw [List.set_append_left _ _ hlt]⟩⟩
  | make ty e b' zs l c =>
   rw [ho] at hv
   simp only [OpV,cstep] at hv ⊢
   simp only [ev]
   split at hv
   ·split at hv
    ·rename_i hcnd
     simp only [Option.some.injEq,Prod.mk.injEq] at hv
     obtain ⟨rfl,rfl⟩:=hv
     refine ⟨phIdx_append hp,fun K=>?_⟩
     rw [if_pos hcnd,List.length_set,List.set_append_left _ _ hlt]
    ·cases hv
   ·cases hv
  | append ty e b' x y =>
   rw [ho] at hv hc
   have he:e ≠ 0:=fun e0=>by
    simp only [cls,e0,if_true] at hc
    rcases hc with hc | hc | hc | hc <;> cases hc
   simp only [OpV,cstep,Option.bind_eq_some_iff] at hv ⊢
   simp only [ev]
   obtain ⟨ys,hys,hv⟩:=hv
   have hys':=fun K=>elems_set (K:=K) hk0 h0 he hys
   split at hv
   ·rename_i bb ver hev
    split at hv
    ·rename_i k hk
     split at hv
     ·rename_i hcnd
      simp only [Option.some.injEq,Prod.mk.injEq] at hv
      obtain ⟨rfl,rfl⟩:=hv
      have hne:b ≠ bb:=by rintro rfl;rw [hk0] at hk;cases hk;omega
      refine ⟨phIdx_set hp hne (show k.e ≠ 0 by omega),fun K=>⟨ys,hys' K,?_⟩⟩
      rw [List.getElem?_set_ne hne,hk]
      simp only
      rw [if_pos hcnd,List.set_comm _ _ hne]
     ·cases hv
    ·cases hv
   ·rename_i hev
    split at hv
    ·rename_i hcnd
     simp only [Option.some.injEq,Prod.mk.injEq] at hv
     obtain ⟨rfl,rfl⟩:=hv
     refine ⟨phIdx_append hp,fun K=>⟨ys,hys' K,?_⟩⟩
     rw [if_pos hcnd,List.length_set,List.set_append_left _ _ hlt]
    ·cases hv
   ·rename_i e' l hev
    split at hv
    ·rename_i hcnd
     simp only [Option.some.injEq,Prod.mk.injEq] at hv
     obtain ⟨rfl,rfl⟩:=hv
     refine ⟨phIdx_append hp,fun K=>⟨ys,hys' K,?_⟩⟩
     rw [if_pos hcnd,List.length_set,List.set_append_left _ _ hlt]
    ·cases hv
   ·cases hv
  | isnil f n x =>
   rw [ho] at hv
   simp only [OpV,cstep,Option.map_eq_some_iff,Prod.mk.injEq] at hv ⊢
   obtain ⟨r,hr,rfl,rfl⟩:=hv
   exact ⟨hp,fun K=>⟨r,by rw [ev];exact isNilAV_set hk0 h0 hr,rfl,rfl⟩⟩
  | load n ag x =>
   rw [ho] at hv
   simp only [OpV,cstep,Option.bind_eq_some_iff,Option.map_eq_some_iff,Prod.mk.injEq] at hv ⊢
   obtain ⟨cs,hr,v,hv1,rfl,rfl⟩:=hv
   exact ⟨hp,fun K=>⟨cs,by rw [ev];exact readN_set hk0 hl hr,v,hv1,rfl,rfl⟩⟩
  | bstr x =>
   rw [ho] at hv
   simp only [OpV,cstep,Option.bind_eq_some_iff,Option.map_eq_some_iff,Prod.mk.injEq] at hv ⊢
   obtain ⟨cs,hr,v,hv1,rfl,rfl⟩:=hv
   exact ⟨hp,fun K=>⟨cs,by rw [ev];exact elems_set hk0 h0 (by decide) hr,v,hv1,rfl,rfl⟩⟩
  | len s x =>
   rw [ho] at hv
   simp only [OpV,cstep,Option.map_eq_some_iff,Prod.mk.injEq] at hv ⊢
   obtain ⟨r,hr,rfl,rfl⟩:=hv
   exact ⟨hp,fun K=>⟨r,by rw [ev];exact lenAV_set hk0 h0 hr,rfl,rfl⟩⟩
  | faddr o' x =>
   rw [ho] at hv
   simp only [OpV,cstep] at hv ⊢
   simp only [ev]
   split at hv
   ·rename_i bb ver i off hev
    cases hk:h[bb]? with
    | none=>simp [hk] at hv
    | some k =>
     simp only [hk] at hv
     split at hv
     ·rename_i hcnd
      simp only [Option.some.injEq,Prod.mk.injEq] at hv
      obtain ⟨rfl,rfl⟩:=hv
      have hne:b ≠ bb:=by rintro rfl;rw [hk0] at hk;cases hk;omega
      refine ⟨hp,fun K=>?_⟩
      rw [List.getElem?_set_ne hne,hk]
      simp only
      rw [if_pos hcnd]
     ·cases hv
   ·simp only [Option.some.injEq,Prod.mk.injEq] at hv
    obtain ⟨rfl,rfl⟩:=hv
    exact ⟨hp,fun K=>rfl⟩
   ·cases hv
  | iaddr e ar x y =>
   rw [ho] at hv
   simp only [OpV,cstep] at hv ⊢
   simp only [ev]
   cases hi:((⟨t,h⟩:St).ev y).int? with
   | none=>simp [hi] at hv
   | some q =>
    simp only [hi] at hv ⊢
    split at hv
    ·rename_i bb ver hev
     cases hk:h[bb]? with
     | none=>simp [hk] at hv
     | some k =>
      simp only [hk] at hv
      split at hv
      ·rename_i hcnd
       simp only [Option.some.injEq,Prod.mk.injEq] at hv
       obtain ⟨rfl,rfl⟩:=hv
       have hne:b ≠ bb:=by
        rintro rfl
        rw [hk0] at hk
        cases hk
        have:=hcnd.2.2.2
        rw [hl] at this
        simp at this
        omega
       refine ⟨hp,fun K=>?_⟩
       rw [List.getElem?_set_ne hne,hk]
       simp only
       rw [if_pos hcnd]
      ·cases hv
    ·rename_i e' l hev
     split at hv
     ·rename_i hcnd
      cases hq:l[q.2.toNat]? with
      | none=>simp [hq] at hv
      | some r =>
       simp only [hq,Option.some.injEq,Prod.mk.injEq] at hv
       obtain ⟨rfl,rfl⟩:=hv
       exact ⟨hp,fun K=>by rw [if_pos hcnd]⟩
     ·cases hv
    ·rename_i e' l hev
     split at hv
     ·rename_i hcnd
      cases hq:l[q.2.toNat]? with
      | none=>simp [hq] at hv
      | some r =>
       simp only [hq,Option.some.injEq,Prod.mk.injEq] at hv
       obtain ⟨rfl,rfl⟩:=hv
       exact ⟨hp,fun K=>by rw [if_pos hcnd]⟩
     ·cases hv
    ·rename_i n bb ver i' off hev
     cases hk:h[bb]? with
     | none=>simp [hk] at hv
     | some k =>
      simp only [hk] at hv
      split at hv
      ·rename_i hcnd
       simp only [Option.some.injEq,Prod.mk.injEq] at hv
       obtain ⟨rfl,rfl⟩:=hv
       have hne:b ≠ bb:=by rintro rfl;rw [hk0] at hk;cases hk;omega
       refine ⟨hp,fun K=>?_⟩
       rw [List.getElem?_set_ne hne,hk]
       simp only
       rw [if_pos hcnd]
      ·cases hv
    ·rename_i n l hev
     split at hv
     ·rename_i hcnd
      simp only [Option.some.injEq,Prod.mk.injEq] at hv
      obtain ⟨rfl,rfl⟩:=hv
      exact ⟨hp,fun K=>by rw [if_pos hcnd]⟩
     ·cases hv
    ·cases hv
  | store n x y=>rw [ho] at hc;simp [cls] at hc
  | slice e x lo hi mx=>rw [ho] at hc;simp [cls] at hc
  | copy e x y=>rw [ho] at hc;simp [cls] at hc
  | fill ty zs=>rw [ho] at hc;simp [cls] at hc
  | _ =>
   rw [ho] at hv
   obtain ⟨e,hk⟩:=pure_heap (opn:=opn) (by rfl) hv
   exact ⟨by rw [e];exact hp,fun K=>by rw [e];exact hk _⟩
 unfold OV at hv ⊢
 cases hg:o.guard with
 | none=>rw [hg] at hv;exact key hv
 | some p =>
  rw [hg] at hv
  obtain ⟨g,h1',h2',h3⟩:=hv
  cases g with
  | true=>exact ⟨(key (h2' rfl)).1,fun K=>⟨true,h1',fun _=>(key (h2' rfl)).2 K,fun e=>by cases e⟩⟩
  | false =>
   obtain ⟨rfl,rfl⟩:=h3 rfl
   exact ⟨hp,fun K=>⟨false,h1',(fun e=>by cases e),fun _=>⟨rfl,rfl⟩⟩⟩
theorem RunD.fill_up {b:Nat}:∀ {pre:List CO} {st sp:St},RunD P opn pre st sp -> (∀ p ∈ pre,cls opn p.op = .pure \/ cls opn p.op = .read \/ cls opn p.op = .alloc \/ cls opn p.op = .app) -> phIdx st.h = some b ->
  phIdx sp.h = some b /\ ∀ K,RunD P opn pre ⟨st.t,st.h.set b K⟩ ⟨sp.t,sp.h.set b K⟩
 | [],st,sp,hr,_,hp=>by cases hr;exact ⟨hp,fun K=>rfl⟩
 | p :: pre,st,sp,hr0,hx,hp=>by
  obtain ⟨s1,⟨av,h1,hv,rfl⟩,hr⟩:=hr0
  obtain ⟨e1,e2⟩:=OV.fill_up (hx p (by simp)) hp hv
  obtain ⟨e3,e4⟩:=RunD.fill_up (st:=⟨putT st.t p.dst av,h1⟩) hr (fun q hq=>hx q (by simp [hq])) e1
  exact ⟨e3,fun K=>⟨_,⟨av,h1.set b K,e2 K,rfl⟩,e4 K⟩⟩
def clsOk:Cls -> Cls -> Bool
 | .pure,_ | _,.pure=>true
 | .read,.read | .read,.quiet | .quiet,.read | .read,.alloc | .alloc,.read | .app,.read | .read,.fill | .alloc,.fill | .app,.fill=>true
 | _,_=>false
def notIn (d:Option Tmp) (l:List Tmp):Bool:=match d with | some x=>!l.contains x | none=>true
def differ (d e:Option Tmp):Bool:=match d,e with | some x,some y=>x != y | _,_=>true
def indep (opn:List FuncId) (p i:CO):Bool :=
 notIn p.dst (names i) && notIn i.dst (names p) && differ p.dst i.dst && clsOk (cls opn p.op) (cls opn i.op)
theorem notIn_spec {d:Option Tmp} {l:List Tmp} (h:notIn d l = true):∀ x,d = some x -> x ∉ l:=fun x hx=>by
 subst hx;simpa [notIn] using h
theorem differ_spec {d e:Option Tmp} (h:differ d e = true):∀ x,d = some x -> e ≠ some x:=fun x hx he=>by
 subst hx;subst he;simp [differ] at h
theorem RunD.move {pre:List CO} {i:CO} {st sp sq:St} (hr:RunD P opn pre st sp) (hi:OD P opn i sp sq) (hind:∀ p ∈ pre,indep opn p i = true) (hsc:∀ x ∈ opnds i.op,ScopedV st.h (st.ev x)) (hph:cls opn i.op = .fill -> ∃ b,phIdx st.h = some b) :
  ∃ s1,OD P opn i st s1 /\ RunD P opn pre s1 sq:=by
 have hspec:∀ p ∈ pre,(∀ x,p.dst = some x -> x ∉ names i) /\ (∀ x,i.dst = some x -> x ∉ names p /\ p.dst ≠ some x) /\ clsOk (cls opn p.op) (cls opn i.op) = true:=fun p hp=>by
  have:=hind p hp
  simp only [indep,Bool.and_eq_true] at this
  exact ⟨notIn_spec this.1.1.1,fun x hx=>⟨notIn_spec this.1.1.2 x hx,fun e=>differ_spec this.1.2 x e hx⟩,this.2⟩
 obtain ⟨av,h',hv,rfl⟩:=hi
 have hag:∀ x ∈ names i,sp.t[x]? = st.t[x]?:=fun x hx=>hr.slots x (fun p hp e=>(hspec p hp).1 x e hx)
 have hv':OV P opn i st.t sp.h av h':=OV.agree hag hv
 have hfr:=hr.frame (d:=i.dst) (v:=av) (fun p hp=>(hspec p hp).2.1)
 cases hc:cls opn i.op with
 | pure =>
  obtain ⟨rfl,hk⟩:=OV.pure hc hv'
  exact ⟨_,⟨av,st.h,hk st.h,rfl⟩,hfr⟩
 | read =>
  have hS:Bmp st.h sp.h:=hr.bmp (fun p hp=>⟨fun e=>(by have:=(hspec p hp).2.2;rw [e,hc] at this;cases this),fun e=>(by have:=(hspec p hp).2.2;rw [e,hc] at this;cases this)⟩)
  obtain ⟨rfl,hk⟩:=OV.read_down hc hS h' hsc hv'
  exact ⟨_,⟨av,st.h,hk,rfl⟩,hfr⟩
 | alloc =>
  have hcl:∀ p ∈ pre,cls opn p.op = .pure \/ cls opn p.op = .read:=fun p hp=>by
   have:=(hspec p hp).2.2
   rw [hc] at this
   cases hp':cls opn p.op with
   | pure=>exact .inl rfl
   | read=>exact .inr rfl
   | _=>rw [hp'] at this;cases this
  have he:=(hr.heap (h':=st.h) (.inr ⟨hcl,Sim.refl _⟩)).1
  rw [he] at hv' hfr
  have hS:=OV.alloc (.inl hc) hv'
  have:=(RunD.heap (h':=h') hfr (.inr ⟨hcl,hS⟩)).2
  exact ⟨_,⟨av,h',hv',rfl⟩,this⟩
 | quiet =>
  have hcl:∀ p ∈ pre,cls opn p.op = .pure \/ cls opn p.op = .read:=fun p hp=>by
   have:=(hspec p hp).2.2
   rw [hc] at this
   cases hp':cls opn p.op with
   | pure=>exact .inl rfl
   | read=>exact .inr rfl
   | _=>rw [hp'] at this;cases this
  have he:=(hr.heap (h':=st.h) (.inr ⟨hcl,Sim.refl _⟩)).1
  rw [he] at hv' hfr
  have hS:=OV.alloc (.inr hc) hv'
  have:=(RunD.heap (h':=h') hfr (.inr ⟨hcl,hS⟩)).2
  exact ⟨_,⟨av,h',hv',rfl⟩,this⟩
 | write =>
  have hcl:∀ p ∈ pre,cls opn p.op = .pure:=fun p hp=>by
   have:=(hspec p hp).2.2
   rw [hc] at this
   cases hp':cls opn p.op with
   | pure=>rfl
   | _=>rw [hp'] at this;cases this
  have he:=(hr.heap (h':=st.h) (.inl hcl)).1
  rw [he] at hv' hfr
  have:=(RunD.heap (h':=h') hfr (.inl hcl)).2
  exact ⟨_,⟨av,h',hv',rfl⟩,this⟩
 | app =>
  have hcl:∀ p ∈ pre,cls opn p.op = .pure:=fun p hp=>by
   have:=(hspec p hp).2.2
   rw [hc] at this
   cases hp':cls opn p.op with
   | pure=>rfl
   | _=>rw [hp'] at this;cases this
  have he:=(hr.heap (h':=st.h) (.inl hcl)).1
  rw [he] at hv' hfr
  have:=(RunD.heap (h':=h') hfr (.inl hcl)).2
  exact ⟨_,⟨av,h',hv',rfl⟩,this⟩
 | fill =>
  obtain ⟨b,hb⟩:=hph hc
  have hcl:∀ p ∈ pre,cls opn p.op = .pure \/ cls opn p.op = .read \/ cls opn p.op = .alloc \/ cls opn p.op = .app:=fun p hp=>by
   have:=(hspec p hp).2.2
   rw [hc] at this
   cases hp':cls opn p.op with
   | pure=>exact .inl rfl
   | read=>exact .inr (.inl rfl)
   | alloc=>exact .inr (.inr (.inl rfl))
   | app=>exact .inr (.inr (.inr rfl))
   | _=>rw [hp'] at this;cases this
  obtain ⟨hb',hset⟩:=RunD.fill_up hfr hcl hb
  have fillOp:∀ {h:List Blk} {av h1},phIdx h = some b -> OpV P opn st.t h i.op av h1 -> ∃ K,h1 = h.set b K /\ ∀ h2,phIdx h2 = some b -> OpV P opn st.t h2 i.op av (h2.set b K):=fun {h av h1} hpb hv=>by
   cases ho:i.op with
   | fill ty zs =>
    rw [ho] at hv
    simp only [OpV,cstep,hpb,Option.map_some,Option.some.injEq,Prod.mk.injEq] at hv
    obtain ⟨rfl,rfl⟩:=hv
    exact ⟨_,rfl,fun h2 hp2=>by simp only [OpV,cstep,hp2,Option.map_some]⟩
   | append ty e b' x y=>rw [ho] at hc;simp only [cls] at hc;split at hc <;> cases hc
   | callf f args =>
   rw [ho,cls_callf] at hc
   split at hc
   ·cases hc
   ·split at hc <;> cases hc
   | _=>rw [ho] at hc;simp [cls] at hc
  have hall:∃ s1h,OV P opn i st.t st.h av s1h /\ RunD P opn pre ⟨putT st.t i.dst av,s1h⟩ ⟨putT sp.t i.dst av,h'⟩:=by
   unfold OV at hv' ⊢
   cases hg:i.guard with
   | none =>
    rw [hg] at hv'
    obtain ⟨K,rfl,h2⟩:=fillOp hb' hv'
    exact ⟨st.h.set b K,h2 st.h hb,hset K⟩
   | some q =>
    rw [hg] at hv'
    obtain ⟨g,h1',h2',h3⟩:=hv'
    cases g with
    | true =>
     obtain ⟨K,rfl,h2⟩:=fillOp hb' (h2' rfl)
     exact ⟨st.h.set b K,⟨true,h1',fun _=>h2 st.h hb,fun e=>by cases e⟩,hset K⟩
    | false =>
     obtain ⟨rfl,rfl⟩:=h3 rfl
     exact ⟨st.h,⟨false,h1',(fun e=>by cases e),fun _=>⟨rfl,rfl⟩⟩,hfr⟩
  obtain ⟨s1h,a1,a2⟩:=hall
  exact ⟨_,⟨av,s1h,a1,rfl⟩,a2⟩
end Go.Am
namespace Go.Am
open Go.RowKit
variable {GL:Glb}
variable {P:Program} {opn:List FuncId} {w w':World} {M0:Nat -> Prop} {h h0 h1 h2 h':List Blk} {hd hd':Nat -> Value} {B0:Nat} {bad bad':Nat -> Prop} {X:Ctx} {st st':St} {a:Act} {t t' t2:List AV}
 {ops:Array Oper} {cos:List CO} {rd:Option Nat} {n:Nat} {Q:Exit -> Act -> World -> Prop}
theorem cop_notFill {o:Oper} {ty:TypeId} {zs:List Value} (hc:cop P o = some (.fill ty zs)):False:=by
 obtain ⟨dst,op,type,pos,after,guard⟩:=o
 cases op with
 | call cc =>
  obtain ⟨callee,cargs,ct⟩:=cc
  cases callee with
  | value f'=>simp [cop] at hc
  | invoke r m=>simp [cop] at hc
  | builtin b =>
   cases b <;> simp only [cop,reduceCtorEq] at hc <;> (repeat' split at hc) <;> simp [Option.bind_eq_some_iff,Option.map_eq_some_iff] at hc
 | makeFunc fn first caps =>
  cases fn <;> simp only [cop,reduceCtorEq] at hc
  repeat' split at hc
  all_goals simp at hc
 | field s x i =>
  simp only [cop] at hc
  split at hc
  ·simp only [Option.bind_eq_some_iff] at hc
   obtain ⟨fd,_,hc⟩:=hc
   repeat' split at hc
   all_goals simp at hc
  ·cases hc
 | binOp op t x y yt =>
  cases op <;> simp only [cop,copEq,Option.some.injEq,reduceCtorEq] at hc <;> (repeat' split at hc) <;> simp at hc
 | _ =>
  simp only [cop,reduceCtorEq,Option.some.injEq] at hc <;> (repeat' split at hc) <;> simp [Option.bind_eq_some_iff,Option.map_eq_some_iff] at hc
theorem compiled_notFill {ops:Array Oper} {o:Oper} {co:CO} (h:compiled P ops o co):cls opn co.op ≠ .fill:=fun e=>by
 cases ho:co.op with
 | fill ty zs=>have h2:=h.2.1;rw [ho] at h2;exact cop_notFill h2
 | callf f args =>
  rw [ho,cls_callf] at e
  split at e
  ·cases e
  ·split at e <;> cases e
 | append ty e' b x y=>rw [ho] at e;simp only [cls] at e;split at e <;> cases e
 | _=>rw [ho] at e;simp [cls] at e
def allCompiled (P:Program) (ops:Array Oper) (cos:List CO):Prop :=
 cos.length = ops.size /\ ∀ (i:Nat) (o:Oper) (co:CO),ops[i]? = some o -> cos[i]? = some co -> compiled P ops o co
theorem put_none (a:Act) (v:Value):a.put none v = a:=rfl
theorem Rel.drawn (r:Rel X st hd a w) (k:Nat):Rel X st hd a { w with drawn:=k }:=by
 have hg:w.grownBy { w with drawn:=k } none:=⟨rfl,rfl,rfl,Nat.le_refl _,fun _ _ _=>rfl⟩
 obtain ⟨H',T⟩:=r.heap.same hg
 exact r.step (dst:=none) (av:=.junk) (v:=undef) hg rowOk_none H' T (.junk _)
theorem RunD.append:∀ {l1 l2:List CO} {s s':St},RunD P opn (l1 ++ l2) s s' -> ∃ sm,RunD P opn l1 s sm /\ RunD P opn l2 sm s'
 | [],l2,s,s',h=>⟨s,rfl,h⟩
 | o :: l1,l2,s,s',h=>by
  obtain ⟨s1,h1,h2⟩:=h
  obtain ⟨sm,h3,h4⟩:=RunD.append h2
  exact ⟨sm,⟨s1,h1,h3⟩,h4⟩
theorem RunD.join:∀ {l1 l2:List CO} {s sm s':St},RunD P opn l1 s sm -> RunD P opn l2 sm s' -> RunD P opn (l1 ++ l2) s s'
 | [],l2,s,sm,s',h1,h2=>by cases h1;exact h2
 | o :: l1,l2,s,sm,s',h1,h2=>by
  obtain ⟨s1,h1,h3⟩:=h1
  exact ⟨s1,h1,RunD.join h3 h2⟩
theorem opsIn_ok (hc:allCompiled P ops cos) (hK:∀ hd' a' w',Rel X st' hd' a' w' -> Q .normal a' w'):∀ (is:List Nat) (st:St) (hd:Nat -> Value) (a:Act) (w:World),
  Rel X st hd a w -> (∀ i ∈ is,i < ops.size) -> RunD P opn (is.filterMap (cos[·]?)) st st' -> wpOpsIn (Wd rd) n P ops Q is a w
 | [],st,hd,a,w,r,_,hr=>by cases hr;exact hK hd a w r
 | i :: is,st,hd,a,w,r,hi,hr=>by
  rw [wpOpsIn_cons]
  have hlt:i < ops.size:=hi i (by simp)
  have ho:ops[i]? = some ops[i]:=by simp [hlt]
  have hco:cos[i]? = some (cos[i]'(by rw [hc.1];exact hlt)):=by simp [hc.1,hlt]
  rw [List.filterMap_cons,hco] at hr
  obtain ⟨s1,h1,h2⟩:=hr
  exact od_ok r ho (hc.2 i _ _ ho hco) h1 (fun hd' a' w' r'=>opsIn_ok hc hK is s1 hd' a' w' r' (fun j hj=>hi j (by simp [hj])) h2)
theorem range_filterMap:∀ (l:List CO) (m:Nat),l.length = m -> (List.range m).filterMap (l[·]?) = l
 | [],m,hm=>by subst hm;rfl
 | x :: l,m,hm=>by
  subst hm
  rw [List.length_cons,List.range_succ_eq_map,List.filterMap_cons]
  simp only [List.getElem?_cons_zero,List.filterMap_map]
  congr 1
  exact range_filterMap l _ rfl
theorem region_ok {id:Nat} (hc:allCompiled P ops cos) (r:Rel X st hd a w) (hr:RunD P opn cos st st') (hK:∀ hd' a' w',Rel X st' hd' a' w' -> Q .normal a' w') :
  (Code.region id ops false).wpIn (Wd rd) n P Q a w :=
 wpIn_region (opsIn_ok hc hK (List.range ops.size) st hd a w r (fun i hi=>List.mem_range.1 hi) (by rw [range_filterMap cos _ hc.1];exact hr))
def deps (o:Oper):List Nat:=(o.after.toList.filter (Region.binds .any)).map (·.on)
def ancsGo:List Oper -> List (List Nat) -> List (List Nat)
 | [],acc=>acc
 | o :: os,acc=>ancsGo os (acc ++ [((deps o) ++ (deps o).flatMap (fun d=>acc.getD d [])).eraseDups])
def indepAt (opn:List FuncId) (cos:List CO) (p i:Nat):Bool :=
 match cos[p]?,cos[i]? with
 | some a,some b=>indep opn a b
 | _,_=>false
def regionOkA (opn:List FuncId) (ops:Array Oper) (cos:List CO) (A:List (List Nat)):Bool :=
 (List.range ops.size).all fun i =>
  (match ops[i]? with
   | some o=>(deps o).all (fun d=>Nat.blt d i) && (A.getD i []).all fun p=>(deps o).contains p || (deps o).any fun d=>(A.getD d []).contains p
   | none=>true) &&
  (List.range i).all fun p=>(A.getD i []).contains p || indepAt opn cos p i
def regionOk (opn:List FuncId) (ops:Array Oper) (cos:List CO):Bool:=regionOkA opn ops cos (ancsGo ops.toList [])
theorem anyIn_ok (hc:allCompiled P ops cos) {A:List (List Nat)} (hA:regionOkA opn ops cos A = true) (hK:∀ hd' a' w',Rel X st' hd' a' w' -> Q .normal a' w') :
  ∀ (fuel:Nat) (r:List Nat) (listed:Array Bool) (st:St) (hd:Nat -> Value) (a:Act) (w:World),r.length <= fuel -> r.Pairwise (· < ·) -> (∀ i ∈ r,i < ops.size) -> listed.size = ops.size ->
   (∀ i,i < ops.size -> (listed.getD i true = true ↔ i ∉ r)) -> (∀ j,j < ops.size -> j ∉ r -> ∀ p ∈ A.getD j [],p ∉ r) ->
   Rel X st hd a w -> RunD P opn (r.filterMap (cos[·]?)) st st' -> wpAnyIn (Wd rd) n P .any ops Q fuel listed a w:=by
 have hspec:∀ i o,ops[i]? = some o -> (∀ d ∈ deps o,d < i) /\ (∀ p ∈ A.getD i [],p ∈ deps o \/ ∃ d ∈ deps o,p ∈ A.getD d []) /\ ∀ p,p < i -> p ∈ A.getD i [] \/ indepAt opn cos p i = true:=fun i o ho=>by
  have hlt:i < ops.size:=(Array.getElem?_eq_some_iff.1 ho).1
  have:=List.all_eq_true.1 hA i (List.mem_range.2 hlt)
  rw [ho] at this
  simp only [Bool.and_eq_true,List.all_eq_true,Bool.or_eq_true,List.contains_iff_mem,List.any_eq_true,List.mem_range] at this
  exact ⟨fun d hd=>by simpa using this.1.1 d hd,this.1.2,this.2⟩
 have hgd:∀ (listed:Array Bool) i,i < listed.size -> listed.getD i true = listed.getD i false:=fun listed i hi=>by simp [Array.getD,hi]
 have hdeps:∀ o e,e ∈ o.after -> Region.binds .any e = true -> e.on ∈ deps o:=fun o e he hb =>
  List.mem_map.2 ⟨e,List.mem_filter.2 ⟨by simpa using he,hb⟩,rfl⟩
 have done:∀ (r:List Nat) (listed:Array Bool),r.Pairwise (· < ·) -> (∀ i ∈ r,i < ops.size) -> listed.size = ops.size -> (∀ i,i < ops.size -> (listed.getD i true = true ↔ i ∉ r)) ->
   Region.ready .any ops listed = [] -> r = []:=fun r listed hp hlt hsz hl hr=>by
  cases r with
  | nil=>rfl
  | cons i r =>
   exfalso
   have hi:i < ops.size:=hlt i (by simp)
   have ho:ops[i]? = some ops[i]:=by simp [hi]
   have hin:i ∈ Region.ready .any ops listed:=by
    rw [mem_ready]
    refine ⟨?_,_,ho,fun e he hb=>?_⟩
    ·cases hq:listed.getD i true with
     | false=>rfl
     | true=>exact absurd ((hl i hi).1 hq) (by simp)
    ·have hd:=(hspec i _ ho).1 _ (hdeps _ e he hb)
     have hds:e.on < ops.size:=Nat.lt_trans hd hi
     rw [<- hgd listed _ (by rw [hsz];exact hds)]
     refine (hl _ hds).2 (fun hm=>?_)
     simp only [List.mem_cons] at hm
     rcases hm with he' | hm
     ·omega
     ·have:=List.rel_of_pairwise_cons hp hm
      omega
   rw [hr] at hin
   cases hin
 intro fuel
 induction fuel with
 | zero =>
  intro r listed st hd a w hlen hp hlt hsz hl hdc R hrun
  have:r = []:=List.eq_nil_of_length_eq_zero (Nat.le_zero.1 hlen)
  subst this
  cases hrun
  refine ⟨?_,hK hd a w R⟩
  cases hq:Region.ready .any ops listed with
  | nil=>rfl
  | cons i l =>
   exfalso
   have hin:i ∈ Region.ready .any ops listed:=by rw [hq];simp
   obtain ⟨h0,o,ho,_⟩:=mem_ready.1 hin
   have:=(hl i (Array.getElem?_eq_some_iff.1 ho).1).2 (by simp)
   rw [h0] at this
   cases this
 | succ fuel ih =>
  intro r listed st hd a w hlen hp hlt hsz hl hdc R hrun
  refine ⟨fun hq=>?_,fun i hin=>?_⟩
  ·have:=done r listed hp hlt hsz hl hq
   subst this
   cases hrun
   exact hK hd a w R
  ·obtain ⟨h0,o,ho,hall⟩:=mem_ready.1 hin
   have hi:i < ops.size:=(Array.getElem?_eq_some_iff.1 ho).1
   have hir:i ∈ r:=by
    refine Decidable.byContradiction fun hn=>?_
    have:=(hl i hi).2 hn
    rw [h0] at this
    cases this
   obtain ⟨pre,post,rfl⟩:=List.append_of_mem hir
   have hpp:=List.pairwise_append.1 hp
   have hpre:∀ p ∈ pre,p < i:=fun p hpm=>hpp.2.2 p hpm i (by simp)
   have hpost:∀ p ∈ post,i < p:=fun p hpm=>List.rel_of_pairwise_cons hpp.2.1 hpm
   have hlisted:∀ d ∈ deps o,d ∉ pre ++ i :: post:=fun d hd=>by
    obtain ⟨e,he,rfl⟩:=List.mem_map.1 hd
    obtain ⟨he1,he2⟩:=List.mem_filter.1 he
    have hlt':=(hspec i o ho).1 _ hd
    have hds:e.on < ops.size:=Nat.lt_trans hlt' hi
    exact (hl _ hds).1 (by rw [hgd listed _ (by rw [hsz];exact hds)];exact hall e (by simpa using he1) he2)
   have hAi:∀ p ∈ A.getD i [],p ∉ pre ++ i :: post:=fun p hpA=>by
    rcases (hspec i o ho).2.1 p hpA with hd | ⟨d,hd,hpd⟩
    ·exact hlisted p hd
    ·exact hdc d (Nat.lt_trans ((hspec i o ho).1 d hd) hi) (hlisted d hd) p hpd
   have hco:cos[i]? = some (cos[i]'(by rw [hc.1];exact hi)):=by simp [hc.1,hi]
   generalize hcoi:(cos[i]'(by rw [hc.1];exact hi)) = co at hco
   rw [List.filterMap_append,List.filterMap_cons,hco] at hrun
   obtain ⟨sp,hr1,sq,hr2,hr3⟩:=RunD.append hrun
   obtain ⟨s1,ho1,hrest⟩:=RunD.move hr1 hr2 (fun c hcm=>by
    obtain ⟨p,hpm,hpc⟩:=List.mem_filterMap.1 hcm
    rcases (hspec i o ho).2.2 p (hpre p hpm) with hA' | hind
    ·exact absurd (by simp [hpm]) (hAi p hA')
    ·unfold indepAt at hind
     rw [hpc,hco] at hind
     exact hind) (fun x hx=>(R.sees x).scopedV) (fun e=>absurd e (compiled_notFill (hc.2 i o co ho hco)))
   refine od_ok R ho (hc.2 i o co ho hco) ho1 (fun hd' a' w' R'=>?_)
   refine ih (pre ++ post) (listed.setIfInBounds i true) s1 hd' a' w' ?_ ?_ ?_ ?_ ?_ ?_ R' ?_
   ·simp only [List.length_append,List.length_cons] at hlen ⊢;omega
   ·exact hp.sublist (by simp)
   ·exact fun j hj=>hlt j (by simp only [List.mem_append,List.mem_cons] at hj ⊢;rcases hj with h | h <;> simp [h])
   ·simpa using hsz
   ·intro j hj
    have hni:i ∉ pre ++ post:=fun hm=>by
     rcases List.mem_append.1 hm with hm | hm
     ·have:=hpre i hm;omega
     ·have:=hpost i hm;omega
    by_cases he:i = j
    ·subst he
     refine ⟨fun _=>hni,fun _=>?_⟩
     simp [Array.getD,hsz,hi]
    ·rw [getD_set_ne true he,hl j hj]
     simp only [List.mem_append,List.mem_cons]
     constructor
     ·intro h1 h2;exact h1 (h2.elim .inl (fun h=>.inr (.inr h)))
     ·intro h1 h2;exact h1 (h2.elim .inl (fun h=>h.elim (fun e=>absurd e.symm he) .inr))
   ·intro j hj hjn p hpA hpm
    have hpm':p ∈ pre ++ i :: post:=by simp only [List.mem_append,List.mem_cons] at hpm ⊢;rcases hpm with h | h <;> simp [h]
    by_cases he:j = i
    ·subst he;exact hAi p hpA hpm'
    ·refine hdc j hj (fun hm=>hjn ?_) p hpA hpm'
     simp only [List.mem_append,List.mem_cons] at hm ⊢
     rcases hm with h | h | h
     ·exact .inl h
     ·exact absurd h he
     ·exact .inr h
   ·rw [List.filterMap_append]
    exact RunD.join hrest hr3
theorem region_any_ok {id:Nat} (hm:P.follows .mixedOrders = true) (hc:allCompiled P ops cos) (hA:regionOk opn ops cos = true) (r:Rel X st hd a w) (hr:RunD P opn cos st st') (hK:∀ hd' a' w',Rel X st' hd' a' w' -> Q .normal a' w') :
  (Code.region id ops true).wpIn (Wd rd) n P Q a w:=by
 refine wpIn_region_any hm (anyIn_ok hc hA hK ops.size (List.range ops.size) _ st hd a _ (by simp) List.pairwise_lt_range (fun i hi=>List.mem_range.1 hi) (by simp) (fun i hi=>?_) (fun j hj hjn=>absurd (List.mem_range.2 hj) hjn) (r.drawn _) (by rw [range_filterMap cos _ hc.1];exact hr))
 have:(Array.replicate ops.size false).getD i true = false:=by simp [Array.getD,hi]
 rw [this]
 simp [hi]
end Go.Am
namespace Go.Am
open Go.RowKit
variable {GL:Glb}
variable {P:Program} {opn:List FuncId} {w w':World} {M0:Nat -> Prop} {h h0 h1 h2 h':List Blk} {hd hd':Nat -> Value} {B0:Nat} {bad bad':Nat -> Prop} {X:Ctx} {st st':St} {a:Act} {t t' t2:List AV}
 {ops:Array Oper} {cos:List CO} {rd:Option Nat} {n:Nat} {Q:Exit -> Act -> World -> Prop}
def vary (c c':COp):Prop :=
 c' = c \/ (∃ e x lo hi mx,c = .slice e x lo hi mx /\ c' = .cutc e x lo hi mx) \/ (∃ ty e ps,c = .mkrow ty e ps /\ c' = .mkrowc e ps) \/ (∃ ty zs,c = .new ty zs /\ c' = .fill ty zs) \/ (∃ ty e by' zs l x,c = .make ty e by' zs l x /\ c' = .makec e by' zs l x)
theorem cutc_slice {e:Nat} {x:Operand} {lo hi mx:Option Operand} {p:AV × List Blk} (hs:cstep st (.cutc e x lo hi mx) = some p):cstep st (.slice e x lo hi mx) = some p:=by
 simp only [cstep,Option.map_eq_some_iff] at hs ⊢
 obtain ⟨v,hv,rfl⟩:=hs
 unfold cutcAV at hv
 split at hv
 ·rename_i e' l hev
  split at hv
  ·rename_i he
   rw [hev]
   simp only
   rw [if_pos he]
   cases mx with
   | none =>
    simp only [Option.map_none,Option.bind_eq_some_iff,Option.map_eq_some_iff] at hv ⊢
    obtain ⟨b,hb,a,ha,rfl⟩:=hv
    exact ⟨b,hb,a,ha,rfl⟩
   | some m =>
    simp only [Option.map_some,Option.bind_eq_some_iff] at hv ⊢
    obtain ⟨mm,hm,b,hb,a,ha,hv⟩:=hv
    split at hv
    ·rename_i hc
     simp only [Option.some.injEq] at hv
     subst hv
     have hc':a = 0 /\ b = mm /\ hi.isSome = true /\ 0 < b:=⟨hc.1,hc.2.1,by have:=hc.2.2.1;simpa using this,hc.2.2.2⟩
     exact ⟨mm,hm,b,hb,a,ha,by rw [if_pos hc']⟩
    ·cases hv
  ·cases hv
 ·rename_i hev
  rw [hev]
  simp only
  split at hv
  ·rename_i hmx
   have hmx':mx.isNone = true:=by simpa using hmx
   rw [if_pos hmx']
   simp only [Option.bind_eq_some_iff,Option.map_eq_some_iff] at hv ⊢
   obtain ⟨b,hb,a,ha,rfl⟩:=hv
   exact ⟨b,hb,a,ha,rfl⟩
  ·cases hv
 ·cases hv
theorem closedCells_spec:∀ {cs:List Cell} {l:List CV},closedCells cs = some l -> cs = l.map .c
 | [],l,hh=>by simp [closedCells] at hh;subst hh;rfl
 | .c x :: r,l,hh=>by
  simp only [closedCells,Option.map_eq_some_iff] at hh
  obtain ⟨l',hl',rfl⟩:=hh
  rw [closedCells_spec hl'];rfl
 | .own .. :: r,l,hh=>by simp [closedCells] at hh
 | .ptr .. :: r,l,hh=>by simp [closedCells] at hh
 | .iptr .. :: r,l,hh=>by simp [closedCells] at hh
 | .slx .. :: r,l,hh=>by simp [closedCells] at hh
 | .fn .. :: r,l,hh=>by simp [closedCells] at hh
 | .mfn .. :: r,l,hh=>by simp [closedCells] at hh
 | .junk :: r,l,hh=>by simp [closedCells] at hh
theorem mapM_closed {e:Nat}:∀ (ps:List Operand) (l:List (List CV)),(ps.mapM fun p=>(st.ev p).cells?.bind fun cs=>if cs.length = e then closedCells cs else none) = some l ->
  (ps.mapM fun p=>(st.ev p).cells?.bind fun cs=>if cs.length = e then some cs else none) = some (l.map (·.map .c))
 | [],l,hm=>by simp at hm;subst hm;rfl
 | p :: ps,l,hm=>by
  rw [List.mapM_cons] at hm ⊢
  simp only [Option.bind_eq_bind,Option.pure_def] at hm ⊢
  cases hc:(st.ev p).cells? with
  | none=>simp [hc] at hm
  | some cs =>
   simp only [hc,Option.bind_some] at hm ⊢
   by_cases he:cs.length = e
   ·rw [if_pos he] at hm ⊢
    cases hcl:closedCells cs with
    | none=>simp [hcl] at hm
    | some r =>
     simp only [hcl,Option.bind_some] at hm
     cases hr:(ps.mapM fun p=>(st.ev p).cells?.bind fun cs=>if cs.length = e then closedCells cs else none) with
     | none=>simp [hr] at hm
     | some rs =>
      simp only [hr,Option.bind_some,Option.some.injEq] at hm
      subst hm
      rw [mapM_closed ps rs hr]
      simp [closedCells_spec hcl]
   ·rw [if_neg he] at hm;simp at hm
theorem gv_mkrowc (H:HR B0 M0 w h hd) (hM:∀ g,M0 g -> g < w.heap.size) {t e:TypeId} {s:Nat} {zs:List Value} (ht:P.underlying t = some (.slice e)) (hs:szOf P e = some s) (hz:zeroT P e = some zs) (hzs:zs.length = s) (hs0:0 < s)
  {l:List (List CV)} {vs:List Value} (hl:(l.map (·.map Cell.c)).length = vs.length) (hh:∀ (i:Nat) (r:List Cell) (v:Value),(l.map (·.map Cell.c))[i]? = some r -> vs[i]? = some v -> r.length = s /\ PW (VR w (badOf M0 h hd) h hd) r v.cells.toList)
  (hlim:(l.map (·.map Cell.c)).length * s <= 16777216) {parts:Array (Nat × Value)} (hparts:parts.toList = (vs.zipIdx 0).map fun p=>(p.2,p.1)) :
  GV P B0 M0 w h hd (Instr.buildSlice t (l.map (·.map Cell.c)).length parts) (.one (.c (.sl s l))) h:=by
 obtain ⟨z,hzr,hzc⟩:=zeroT_run (w:=w) hz
 have hzsz:z.cells.size = s:=by rw [<- hzs,<- hzc];simp
 generalize hrows:l.map (·.map Cell.c) = rows at *
 have hinit:∃ us0:Array Value,us0.size = rows.length * s /\ ((if rows.length * s = 0 then pure #[] else do pure (<- zeroValue e).cells:Sem (Array Value)).run P w = .ok (if rows.length * s = 0 then #[] else z.cells) w) /\
   us0 = (Array.range (rows.length * s)).map ((if rows.length * s = 0 then #[] else z.cells)[· % (if rows.length * s = 0 then #[] else z.cells).size]!):=by
  refine ⟨_,?_,?_,rfl⟩
  ·simp
  ·by_cases h0:rows.length * s = 0 <;> simp [h0,hzr,Result.andThen]
 obtain ⟨us0,hus0,hz0,hus0e⟩:=hinit
 obtain ⟨us',hfill,hpw,hsz'⟩:=fill_row (s:=s) rows vs 0 us0 hl hh (by rw [hus0];simp) [] (by simpa using PW.nil)
 have hrun:(Instr.buildSlice t rows.length parts).run P w = .ok (.slice (some ⟨w.heap.size,0,none⟩) rows.length rows.length) (w.alloc (.cells us' e)):=by
  have hlim':¬ (rows.length * s > 2 ^ 24):=by omega
  simp only [Instr.buildSlice,Sem.run_bind,run_underlying ht,Result.andThen,szOf_run hs,hlim',if_false,Sem.run_pure]
  rw [hparts]
  by_cases h0:rows.length * s = 0
  ·rw [if_pos h0] at hus0e
   simp only [h0,if_true,Sem.run_bind,Sem.run_pure,Result.andThen] at hus0e ⊢
   rw [<- hus0e,hfill]
   simp [newRow,Result.andThen]
  ·rw [if_neg h0] at hus0e
   simp only [h0,if_false,Sem.run_bind,Sem.run_pure,hzr,Result.andThen]
   rw [<- hus0e,hfill]
   simp [newRow,Result.andThen]
 have hrow:∀ (i:Nat) (r:List Cell),rows[i]? = some r -> r.length = s:=fun i r hi =>
  (hh i r (vs[i]'(by rw [<- hl];exact (List.getElem?_eq_some_iff.1 hi).1)) hi (List.getElem?_eq_getElem _)).1
 have hg:w.grownBy (w.alloc (.cells us' e)) none:=World.grownBy_alloc w _ none
 obtain ⟨H',T⟩:=H.same hg
 refine ⟨_,_,hd,none,hrun,hg,rowOk_none,H',T,.one _ _ (.c _ _ ?_)⟩
 have hpw':PW (VR w (badOf M0 h hd) h hd) rows.flatten us'.toList:=by simpa using hpw
 have hll:rows.length = l.length:=by rw [<- hrows,List.length_map]
 have hrowl:∀ (i:Nat) (r:List CV),l[i]? = some r -> r.length = s:=fun i r hi=>by
  have:=hrow i (r.map .c) (by rw [<- hrows,List.getElem?_map,hi];rfl)
  simpa using this
 have hflat:rows.flatten = l.flatten.map Cell.c:=by rw [<- hrows,List.map_flatten]
 have hcr:PW (CR (w.alloc (.cells us' e)) (badOf M0 h hd)) l.flatten us'.toList:=by
  rw [hflat] at hpw'
  refine ⟨by rw [<- hpw'.1,List.length_map],fun i x v hx hv=>?_⟩
  have:=hpw'.2 i (.c x) v (by rw [List.getElem?_map,hx];rfl) hv
  cases this with
  | c _ _ hc=>exact hc.tr T.blk T.ok T.size
 have hnb:¬ badOf M0 h hd w.heap.size:=fun hb=>by
  rcases hb with hm | ⟨b,k,hk,_,hg⟩
  ·have:=hM _ hm;omega
  ·have:=(H.lt hk hg).2;omega
 have:=CR.of_rows (w:=w.alloc (.cells us' e)) (bad:=badOf M0 h hd) (e:=s) (l:=l) (g:=w.heap.size) (off:=0) (cap:=l.length) hnb (by simp) (Nat.le_refl _) hrowl hcr (fun j u hu=>by
  have hc:(w.alloc (.cells us' e)).heap[w.heap.size]? = some (.cells us' e (0,0)):=by simpa using heap_alloc_new w (.cells us' e)
  simp only [World.cell?,hc,Nat.zero_add]
  simpa using hu)
 rw [hll]
 exact this
theorem gv_fill (H:HR B0 M0 w h hd) (hM:∀ g,M0 g -> g < w.heap.size) (hB:B0 <= w.heap.size) {t:TypeId} {zs:List Value} (hz:zeroT P t = some zs) (h1:zs.all (·.oneCell') = true) {b:Nat} (hp:phIdx h = some b) :
  GV P B0 M0 w h hd (Instr.alloc t true (.tuple #[])) (.one (.ptr b 1 0 0)) (h.set b ⟨1,t,zs.length,[zs.map fun v=>.c (.val v)],true,true⟩):=by
 obtain ⟨k0,hk0,hph,_⟩:=phIdx_spec hp
 have hlt:=(List.getElem?_eq_some_iff.1 hk0).1
 have hnil:hd b = .slice none 0 0:=(H.nn b k0 hk0).1 hph.2.2.2.1
 unfold zeroT at hz
 cases hi:P.info? t with
 | none=>simp [hi] at hz
 | some i =>
  cases hq:i.zero with
  | none=>simp [hi,hq] at hz
  | some z =>
   simp only [hi,hq,Option.bind_some,Option.map_some,Option.some.injEq] at hz
   have hrun:(Instr.alloc t true (.tuple #[])).run P w = .ok (.pointer (some ⟨w.heap.size,0,none⟩)) (w.alloc (.cells zs.toArray t)):=by
    simp [Instr.alloc,zeroValue,typeInfo,hi,hq,newVar,newRow,Result.andThen,<- hz]
   have hpw:=zero_pw (w:=w) (bad:=badOf M0 h hd) (h:=h) (hd:=hd) h1
   have hown:(w.alloc (.cells zs.toArray t)).ownsRow B0 t zs.length (.slice (some ⟨w.heap.size,0,none⟩) 1 1) 1 zs.toArray.toList :=
    World.ownsRow_lit w zs.toArray 1 hB (by simp [maxLen]) (by simp)
   have hg:w.grownBy (w.alloc (.cells zs.toArray t)) (hd b).ownBlock:=by rw [hnil];exact World.grownBy_alloc w _ none
   have key:=H.upd (k':=⟨1,t,zs.length,[zs.map fun v=>.c (.val v)],true,true⟩) hk0 hph.2.2.1 hg (v:=.slice (some ⟨w.heap.size,0,none⟩) 1 1) (xs:=zs) (.inr (by rw [hph.2.1];exact Nat.one_pos))
    (fun i r hi=>by
     cases i with
     | zero=>simp at hi;subst hi;simp
     | succ i=>simp at hi) (by simpa using hown) (by simpa using hpw.2) (fun g hg=>by simp [Value.ownBlock] at hg;exact .inr (by omega)) hM (by simp)
   refine ⟨_,_,_,none,hrun,by rw [hnil] at hg;exact hg,rowOk_none,key.1,key.2,.one _ _ ?_⟩
   have:=VR.ptr (w:=w.alloc (.cells zs.toArray t)) (bad:=badOf M0 (h.set b ⟨1,t,zs.length,[zs.map fun v=>.c (.val v)],true,true⟩) (Am.upd hd b (.slice (some ⟨w.heap.size,0,none⟩) 1 1))) (h:=h.set b ⟨1,t,zs.length,[zs.map fun v=>.c (.val v)],true,true⟩)
    (hd:=Am.upd hd b (.slice (some ⟨w.heap.size,0,none⟩) 1 1)) b 0 0 ⟨1,t,zs.length,[zs.map fun v=>.c (.val v)],true,true⟩ w.heap.size 1 1 (by simp [hlt]) (upd_same _ _ _)
   simpa using this
theorem gv_makec (H:HR B0 M0 w h hd) (hM:∀ g,M0 g -> g < w.heap.size) (hB:B0 <= w.heap.size) {t e:TypeId} {i:TypeInfo} {z:Value} (ht:P.underlying t = some (.slice e)) (hi:P.info? e = some i) (hz:i.zero = some z)
  (hzs:z.cells.size = i.size) (hsz:0 < i.size) (h1:z.cells.all (·.oneCell') = true) {kl kc:IntKind} {n:Int} (h0:0 <= n) (hb:n * i.bytes <= 140737488355328) (h63:n <= 9223372036854775807) :
  GV P B0 M0 w h hd (Instr.makeSlice t (.int kl n) (.int kc n)) (.one (.c (.sl i.size (List.replicate n.toNat (z.cells.toList.map .val))))) h:=by
 obtain ⟨n,rfl⟩:∃ m:Nat,n = m:=⟨n.toNat,by omega⟩
 simp only [Int.toNat_natCast]
 obtain ⟨w',hrun,ho,hg⟩:=run_make_full (P:=P) w B0 t e i z i.size ht hi hz rfl kl kc n (by
  have hb':((n * i.bytes:Nat):Int) <= 140737488355328:=by rw [Int.natCast_mul];exact hb
  rw [Nat.mul_comm];omega) (by rw [maxLen_eq];omega) hB
 obtain ⟨H',T⟩:=H.same hg
 refine ⟨_,_,hd,none,hrun,hg,rowOk_none,H',T,.one _ _ (.c _ _ ?_)⟩
 have hpw:=madeCells_pw (w:=w') (h:=h) (hd:=hd) (bad:=badOf M0 h hd) (n:=n) hzs hsz h1
 have hrowl:∀ (j:Nat) (r:List CV),(List.replicate n (z.cells.toList.map CV.val))[j]? = some r -> r.length = i.size:=fun j r hj=>by
  rw [List.getElem?_replicate] at hj
  split at hj
  ·simp at hj;subst hj;simp [hzs]
  ·cases hj
 have hflat:(List.replicate n (z.cells.toList.map fun v=>Cell.c (.val v))).flatten = (List.replicate n (z.cells.toList.map CV.val)).flatten.map Cell.c:=by
  rw [List.map_flatten,List.map_replicate,List.map_map];rfl
 have hcr:PW (CR w' (badOf M0 h hd)) (List.replicate n (z.cells.toList.map CV.val)).flatten (madeCells z.cells (n * i.size)).toList:=by
  rw [hflat] at hpw
  refine ⟨by rw [<- hpw.1,List.length_map],fun j x v hx hv=>?_⟩
  have:=hpw.2 j (.c x) v (by rw [List.getElem?_map,hx];rfl) hv
  cases this with
  | c _ _ hc=>exact hc
 have hnb:¬ badOf M0 h hd w.heap.size:=fun hb=>by
  rcases hb with hm | ⟨b,k,hk,_,hg⟩
  ·have:=hM _ hm;omega
  ·have:=(H.lt hk hg).2;omega
 have hlt:w.heap.size < w'.heap.size:=by
  rcases ho.2 with ⟨h0,_⟩ | ⟨g,cap,cur,hh,_,hgg,_⟩
  ·cases h0
  ·have:=(Array.getElem?_eq_some_iff.1 hgg).1
   simp only [Value.slice.injEq,Option.some.injEq,Addr.mk.injEq] at hh
   rw [hh.1.1];exact this
 have:=CR.of_rows (w:=w') (bad:=badOf M0 h hd) (e:=i.size) (l:=List.replicate n (z.cells.toList.map CV.val)) (g:=w.heap.size) (off:=0) (cap:=n) hnb hlt (by rw [List.length_replicate];exact Nat.le_refl _) hrowl hcr (fun j u hu=>by
  have:=ho.cells (g:=w.heap.size) rfl j u hu
  rwa [addr_add] at this)
 rw [List.length_replicate] at this
 exact this
theorem cop_make {o:Oper} {ty:TypeId} {e b:Nat} {zs:List Value} {l x:Operand} (hc:cop P o = some (.make ty e b zs l x)):∃ t,o.op = .makeSlice t l x:=by
 obtain ⟨dst,op,type,pos,after,guard⟩:=o
 cases op with
 | call cc =>
  exfalso
  obtain ⟨callee,cargs,ct⟩:=cc
  cases callee with
  | value f'=>simp [cop] at hc
  | invoke r m=>simp [cop] at hc
  | builtin b =>
   cases b <;> simp only [cop,reduceCtorEq] at hc <;> (repeat' split at hc) <;> simp [Option.bind_eq_some_iff,Option.map_eq_some_iff] at hc
 | makeFunc fn first caps =>
  exfalso
  cases fn <;> simp only [cop,reduceCtorEq] at hc
  repeat' split at hc
  all_goals simp at hc
 | makeSlice t l' c' =>
  simp only [cop] at hc
  repeat' split at hc
  all_goals first | (simp only [Option.some.injEq,COp.make.injEq] at hc;obtain ⟨rfl,rfl,rfl,rfl,rfl,rfl⟩:=hc;exact ⟨_,rfl⟩) | cases hc
 | field s x i =>
  exfalso
  simp only [cop] at hc
  split at hc
  ·simp only [Option.bind_eq_some_iff] at hc
   obtain ⟨fd,_,hc⟩:=hc
   repeat' split at hc
   all_goals simp at hc
  ·cases hc
 | binOp op t x y yt =>
  exfalso
  cases op <;> simp only [cop,copEq,Option.some.injEq,reduceCtorEq] at hc <;> (repeat' split at hc) <;> simp at hc
 | _ =>
  exfalso
  simp only [cop,reduceCtorEq,Option.some.injEq] at hc <;> (repeat' split at hc) <;> simp [Option.bind_eq_some_iff,Option.map_eq_some_iff] at hc
theorem cop_mkrow {o:Oper} {ty:TypeId} {e:Nat} {ps:List Operand} (hc:cop P o = some (.mkrow ty e ps)):∃ t len parts,o.op = .buildSlice t len parts:=by
 obtain ⟨dst,op,type,pos,after,guard⟩:=o
 cases op with
 | buildSlice t len parts=>exact ⟨t,len,parts,rfl⟩
 | call cc =>
  obtain ⟨callee,cargs,ct⟩:=cc
  exfalso
  cases callee with
  | value f'=>simp [cop] at hc
  | invoke r m=>simp [cop] at hc
  | builtin b =>
   cases b <;> simp only [cop,reduceCtorEq] at hc <;> (repeat' split at hc) <;> simp [Option.bind_eq_some_iff,Option.map_eq_some_iff] at hc
 | makeFunc fn first caps =>
  exfalso
  cases fn <;> simp only [cop,reduceCtorEq] at hc
  repeat' split at hc
  all_goals simp at hc
 | field s x i =>
  exfalso
  simp only [cop] at hc
  split at hc
  ·simp only [Option.bind_eq_some_iff] at hc
   obtain ⟨fd,_,hc⟩:=hc
   repeat' split at hc
   all_goals simp at hc
  ·cases hc
 | binOp op t x y yt =>
  exfalso
  cases op <;> simp only [cop,copEq,Option.some.injEq,reduceCtorEq] at hc <;> (repeat' split at hc) <;> simp at hc
 | _ =>
  exfalso
  simp only [cop,reduceCtorEq,Option.some.injEq] at hc <;> (repeat' split at hc) <;> simp [Option.bind_eq_some_iff,Option.map_eq_some_iff] at hc
theorem cop_new {o:Oper} {ty:TypeId} {zs:List Value} (hc:cop P o = some (.new ty zs)):o.op = .alloc ty /\ zeroT P ty = some zs /\ zs.all (·.oneCell') = true:=by
 obtain ⟨dst,op,type,pos,after,guard⟩:=o
 cases op with
 | alloc t =>
  simp only [cop,Option.bind_eq_some_iff] at hc
  obtain ⟨z,hz,hc⟩:=hc
  split at hc
  ·rename_i h1
   simp only [Option.some.injEq,COp.new.injEq] at hc
   obtain ⟨rfl,rfl⟩:=hc
   exact ⟨rfl,hz,h1⟩
  ·cases hc
 | call cc =>
  obtain ⟨callee,cargs,ct⟩:=cc
  exfalso
  cases callee with
  | value f'=>simp [cop] at hc
  | invoke r m=>simp [cop] at hc
  | builtin b =>
   cases b <;> simp only [cop,reduceCtorEq] at hc <;> (repeat' split at hc) <;> simp [Option.bind_eq_some_iff,Option.map_eq_some_iff] at hc
 | makeFunc fn first caps =>
  exfalso
  cases fn <;> simp only [cop,reduceCtorEq] at hc
  repeat' split at hc
  all_goals simp at hc
 | field s x i =>
  exfalso
  simp only [cop] at hc
  split at hc
  ·simp only [Option.bind_eq_some_iff] at hc
   obtain ⟨fd,_,hc⟩:=hc
   repeat' split at hc
   all_goals simp at hc
  ·cases hc
 | binOp op t x y yt =>
  exfalso
  cases op <;> simp only [cop,copEq,Option.some.injEq,reduceCtorEq] at hc <;> (repeat' split at hc) <;> simp at hc
 | _ =>
  exfalso
  simp only [cop,reduceCtorEq,Option.some.injEq] at hc <;> (repeat' split at hc) <;> simp [Option.bind_eq_some_iff,Option.map_eq_some_iff] at hc
theorem op_of_gn (r:Rel X st hd a w) {o:Oper} {K:Act -> World -> Prop} (hnd:∀ d,o.op ≠ .defer d) {av:AV} {h':List Blk} (g:GN P X.B0 X.M0 w st.h hd (execOp a.eval o) o.dst av h')
  (hK:∀ hd' a' w',Rel X ⟨putT st.t o.dst av,h'⟩ hd' a' w' -> K a' w'):o.wpIn (Wd rd) n P a w K Q:=by
 refine ⟨fun f _=>trivial,?_⟩
 have hsem:o.semAt (Wd rd).round a.eval = execOp a.eval o:=Oper.semAt_eq _ _ _ hnd
 rw [hsem]
 obtain ⟨nx,w',hd',row,hrun,hg,hro,H',T,hv⟩:=g
 rw [hrun]
 rcases hv with ⟨v,rfl,hav⟩ | ⟨rfl,hdst⟩
 ·exact hK hd' _ _ (r.step hg hro H' T hav)
 ·have hj':=r.step (dst:=none) (av:=.junk) (v:=undef) hg hro H' T (.junk _)
  show K (a.put o.dst undef) w'
  refine hK hd' _ _ ?_
  rw [hdst]
  exact hj'
theorem op_okV (r:Rel X st hd a w) {o:Oper} {c c':COp} {K:Act -> World -> Prop} (hc:cop P o = some c) (hvy:vary c c') (hs:OpS P st o.dst c' st')
  (hK:∀ hd' a' w',Rel X st' hd' a' w' -> K a' w'):o.wpIn (Wd rd) n P a w K Q:=by
 rcases hvy with rfl | ⟨e,x,lo,hi,mx,rfl,rfl⟩ | ⟨ty,e,ps,rfl,rfl⟩ | ⟨ty,zs,rfl,rfl⟩ | ⟨ty,e,by',zs,l,x,rfl,rfl⟩
 ·exact op_ok r hc hs hK
 ·obtain ⟨av,h',hst,rfl⟩:=hs
  exact op_ok r hc (st':=⟨putT st.t o.dst av,h'⟩) ⟨av,h',cutc_slice hst,rfl⟩ hK
 ·obtain ⟨av,h',hst,rfl⟩:=hs
  obtain ⟨t,len,parts,hop⟩:=cop_mkrow hc
  obtain ⟨dst,op,type,pos,after,guard⟩:=o
  simp only at hop
  subst hop
  refine op_of_gn r (by simp) ?_ hK
  simp only [cstep,Option.map_eq_some_iff,Prod.mk.injEq] at hst
  obtain ⟨rows,hm,rfl,rfl⟩:=hst
  obtain ⟨hl,hh⟩:=mapM_cells r.sees ps _ (mapM_closed ps rows hm)
  simp only [cop] at hc
  split at hc
  ·rename_i e' hu
   split at hc
   ·rename_i s zs hsz hz
    split at hc
    ·rename_i hcond
     obtain ⟨hpi,hlim,hzl,hs0,hmax⟩:=hcond
     simp only [Option.some.injEq,COp.mkrow.injEq] at hc
     obtain ⟨rfl,rfl,rfl⟩:=hc
     have hlen:(rows.map (·.map Cell.c)).length = len:=by
      rw [hl,List.length_map]
      have:=congrArg List.length hpi
      simpa using this
     subst hlen
     have g:=gv_mkrowc (P:=P) (t:=t) r.heap r.M0_lt hu hsz hz hzl hs0 (l:=rows) (vs:=(parts.toList.map (·.2)).map a.eval) (by simp [hl]) hh (by omega) (parts:=parts.map fun (i,x)=>(i,a.eval x)) (by
      apply List.ext_getElem?
      intro i
      simp only [Array.toList_map,List.getElem?_map,List.zipIdx_map,List.getElem?_zipIdx,Option.map_map]
      have hi:=congrArg (·[i]?) hpi
      simp only [List.getElem?_map] at hi
      cases hx:parts.toList[i]? with
      | none=>simp
      | some x =>
       rw [hx] at hi
       have hlt:i < (rows.map (·.map Cell.c)).length:=by
        rw [hl,List.length_map]
        exact (List.getElem?_eq_some_iff.1 hx).1
       rw [List.getElem?_range hlt] at hi
       simp at hi
       simp [hi])
     exact g.next
    ·cases hc
   ·cases hc
  ·cases hc
 ·obtain ⟨av,h',hst,rfl⟩:=hs
  obtain ⟨hop,hz,h1⟩:=cop_new hc
  obtain ⟨dst,op,type,pos,after,guard⟩:=o
  simp only at hop
  subst hop
  refine op_of_gn r (by simp) ?_ hK
  simp only [cstep,Option.map_eq_some_iff,Prod.mk.injEq] at hst
  obtain ⟨b,hb,rfl,rfl⟩:=hst
  exact (gv_fill r.heap r.M0_lt r.B0_le hz h1 hb).next
 ·obtain ⟨av,h',hst,rfl⟩:=hs
  obtain ⟨t,hop⟩:=cop_make hc
  obtain ⟨dst,op,type,pos,after,guard⟩:=o
  simp only at hop
  subst hop
  refine op_of_gn r (by simp) ?_ hK
  simp only [cop] at hc
  split at hc
  ·rename_i e' hu
   split at hc
   ·rename_i inf hinf
    split at hc
    ·rename_i z hz
     split at hc
     ·rename_i hcond
      simp only [Option.some.injEq,COp.make.injEq] at hc
      obtain ⟨rfl,rfl,rfl,rfl,_,_⟩:=hc
      simp only [cstep] at hst
      split at hst
      ·rename_i k1 n k2 m hl hm
       split at hst
       ·rename_i hnm
        obtain ⟨rfl,h0,hb,h63⟩:=hnm
        simp only [Option.some.injEq,Prod.mk.injEq] at hst
        obtain ⟨rfl,rfl⟩:=hst
        have h1:a.eval l = .int k1 n:=(r.sees l).int hl
        have h2:a.eval x = .int k2 n:=(r.sees x).int hm
        have:=(gv_makec r.heap r.M0_lt r.B0_le hu hinf hz hcond.1 hcond.2.1 hcond.2.2 (kl:=k1) (kc:=k2) h0 hb h63).next (dst:=dst)
        rw [<- h1,<- h2] at this
        exact this
       ·cases hst
      ·cases hst
     ·cases hc
    ·cases hc
   ·cases hc
  ·cases hc
def compV (P:Program) (ops:Array Oper) (o:Oper) (co:CO):Prop :=
 co.dst = o.dst /\ (∃ c,cop P o = some c /\ vary c co.op) /\ (match o.guard with
  | none=>co.guard = none
  | some (j,want)=>∃ t,(ops[j]?).bind (·.dst) = some t /\ co.guard = some (t,want))
theorem od_okV (r:Rel X st hd a w) {o:Oper} {co:CO} {i:Nat} {K:Act -> World -> Prop} (hi:ops[i]? = some o) (hc:compV P ops o co) (hs:OD P opn co st st')
  (hK:∀ hd' a' w',Rel X st' hd' a' w' -> K a' w'):wpOpIn (Wd rd) n P ops Q i K a w:=by
 obtain ⟨hdst,⟨c,hcop,hvy⟩,hgd⟩:=hc
 obtain ⟨av,h',hv,rfl⟩:=hs
 unfold wpOpIn
 rw [hi]
 simp only
 unfold OV at hv
 cases hg:o.guard with
 | none =>
  rw [hg] at hgd
  simp only at hgd
  rw [hgd] at hv
  simp only at hv
  have hw:Region.wanted o (yielded ops a.tmps) = true:=by unfold Region.wanted;rw [hg]
  rw [if_pos hw]
  refine op_okV r hcop hvy (st':=⟨putT st.t o.dst av,h'⟩) hv.opS (fun hd' a' w' hr=>?_)
  rw [<- hdst] at hr
  exact hK hd' a' w' hr
 | some jw =>
  obtain ⟨j,want⟩:=jw
  rw [hg] at hgd
  obtain ⟨x,hx,hgd⟩:=hgd
  rw [hgd] at hv
  obtain ⟨g,hgw,h1,h2⟩:=hv
  have hw:=guard_wanted r hg hx hgw
  cases g with
  | true =>
   rw [if_pos hw]
   refine op_okV r hcop hvy (st':=⟨putT st.t o.dst av,h'⟩) (h1 rfl).opS (fun hd' a' w' hr=>?_)
   rw [<- hdst] at hr
   exact hK hd' a' w' hr
  | false =>
   rw [if_neg (by rw [hw];simp)]
   obtain ⟨rfl,rfl⟩:=h2 rfl
   refine ⟨fun f _=>trivial,hK hd _ _ ?_⟩
   rw [hdst]
   exact r.step (grownBy_refl w none) rowOk_none r.heap (Tr.refl _ _ _ _) (.tup [] [] rfl (fun i c v h=>by simp at h))
def relB (opn:List FuncId) (ops:Array Oper) (cos:List CO) (A:List (List Nat)) (p i:Nat):Bool :=
 ((A.getD i []).contains p || indepAt opn cos p i) && !(match ops[p]? with | some o=>(deps o).contains i | none=>false) && p != i
def pairB (f:Nat -> Nat -> Bool):List Nat -> Bool
 | []=>true
 | x :: l=>l.all (f x) && pairB f l
theorem pairB_pw {f:Nat -> Nat -> Bool}:∀ {l:List Nat},pairB f l = true -> l.Pairwise (fun a b=>f a b = true)
 | [],_=>List.Pairwise.nil
 | x :: l,h=>by
  simp only [pairB,Bool.and_eq_true,List.all_eq_true] at h
  exact List.Pairwise.cons h.1 (pairB_pw h.2)
def isFill (cos:List CO) (i:Nat):Bool:=match cos[i]? with | some c=>(match c.op with | .fill ..=>true | _=>false) | none=>false
def isWr (opn:List FuncId) (cos:List CO) (i:Nat):Bool:=match cos[i]? with | some c=>decide (cls opn c.op = .write) || decide (cls opn c.op = .quiet) | none=>false
def regionOkV (opn:List FuncId) (ops:Array Oper) (cos:List CO) (A:List (List Nat)) (ord:List Nat):Bool :=
 Nat.ble ord.length ops.size && pairB (relB opn ops cos A) ord && ord.all (fun i=>Nat.blt i ops.size) && (List.range ops.size).all (fun i=>ord.contains i) &&
 (List.range ops.size).all (fun i=>match ops[i]? with
   | some o=>(deps o).all (fun d=>Nat.blt d ops.size && d != i) && (A.getD i []).all fun p=>(deps o).contains p || (deps o).any fun d=>(A.getD d []).contains p
   | none=>true) &&
 (List.range ops.size).all (fun f=>!isFill cos f || (List.range ops.size).all fun i=>(i == f) || (!isFill cos i && (!isWr opn cos i || (A.getD i []).contains f)))
theorem isFill_cls {co:CO} {i:Nat} (hco:cos[i]? = some co):isFill cos i = true ↔ cls opn co.op = .fill:=by
 unfold isFill
 rw [hco]
 cases ho:co.op with
 | fill ty zs=>simp [ho,cls]
 | callf f args=>simp only [ho];rw [cls_callf];constructor;· intro h;cases h
                 ·intro h;split at h;· cases h
                  ·split at h <;> cases h
 | append ty e b x y=>simp only [ho,cls];constructor;· intro h;cases h
                      ·intro h;split at h <;> cases h
 | _=>simp [ho,cls]
def allV (P:Program) (ops:Array Oper) (cos:List CO):Prop :=
 cos.length = ops.size /\ ∀ (i:Nat) (o:Oper) (co:CO),ops[i]? = some o -> cos[i]? = some co -> compV P ops o co
theorem RunD.one_fill {i:CO} {s1:St} (hc:cls opn i.op = .pure \/ cls opn i.op = .read \/ cls opn i.op = .alloc \/ cls opn i.op = .app) {b:Nat} (hb:phIdx st.h = some b) (hi:OD P opn i st s1):phIdx s1.h = some b:=by
 obtain ⟨av,h',hv,rfl⟩:=hi
 exact (OV.fill_up hc hb hv).1
theorem anyV_ok (hc:allV P ops cos) {A:List (List Nat)} {ord:List Nat} (hA:regionOkV opn ops cos A ord = true) (hK:∀ hd' a' w',Rel X st' hd' a' w' -> Q .normal a' w') :
  ∀ (fuel:Nat) (r:List Nat) (listed:Array Bool) (st:St) (hd:Nat -> Value) (a:Act) (w:World),r.length <= fuel -> r.Pairwise (fun p i=>relB opn ops cos A p i = true) -> (∀ i ∈ r,i < ops.size) -> listed.size = ops.size ->
   (∀ i,i < ops.size -> (listed.getD i true = true ↔ i ∉ r)) -> (∀ j,j < ops.size -> j ∉ r -> ∀ p ∈ A.getD j [],p ∉ r) -> (∀ f ∈ r,isFill cos f = true -> ∃ b,phIdx st.h = some b) ->
   Rel X st hd a w -> RunD P opn (r.filterMap (cos[·]?)) st st' -> wpAnyIn (Wd rd) n P .any ops Q fuel listed a w:=by
 unfold regionOkV at hA
 simp only [Bool.and_eq_true] at hA
 obtain ⟨⟨⟨⟨⟨_,_⟩,_⟩,_⟩,hD⟩,hF⟩:=hA
 have hspec:∀ i o,ops[i]? = some o -> (∀ d ∈ deps o,d < ops.size /\ d ≠ i) /\ (∀ p ∈ A.getD i [],p ∈ deps o \/ ∃ d ∈ deps o,p ∈ A.getD d []):=fun i o ho=>by
  have hlt:i < ops.size:=(Array.getElem?_eq_some_iff.1 ho).1
  have:=List.all_eq_true.1 hD i (List.mem_range.2 hlt)
  rw [ho] at this
  simp only [Bool.and_eq_true,List.all_eq_true,Bool.or_eq_true,List.contains_iff_mem,List.any_eq_true,bne_iff_ne] at this
  exact ⟨fun d hd=>⟨by simpa using (this.1 d hd).1,(this.1 d hd).2⟩,this.2⟩
 have hfill:∀ f,f < ops.size -> isFill cos f = true -> ∀ i,i < ops.size -> i ≠ f -> isFill cos i = false /\ (isWr opn cos i = true -> f ∈ A.getD i []):=fun f hf hff i hi hne=>by
  have:=List.all_eq_true.1 hF f (List.mem_range.2 hf)
  simp only [hff,Bool.not_true,Bool.false_or,List.all_eq_true,List.mem_range,Bool.or_eq_true,Bool.and_eq_true,beq_iff_eq,Bool.not_eq_true',List.contains_iff_mem] at this
  rcases this i hi with e | ⟨e1,e2⟩
  ·exact absurd e hne
  ·exact ⟨e1,fun hw=>e2.resolve_left (by rw [hw];simp)⟩
 have hrel:∀ p i,relB opn ops cos A p i = true -> (p ∈ A.getD i [] \/ True) /\ ((A.getD p [] = A.getD p []) /\ p ≠ i) /\ (i ∈ A.getD p [] -> True) /\ (∀ o,ops[p]? = some o -> i ∉ deps o) /\ (p ∈ A.getD i [] \/ indepAt opn cos p i = true):=fun p i h=>by
  unfold relB at h
  simp only [Bool.and_eq_true,Bool.or_eq_true,List.contains_iff_mem,bne_iff_ne] at h
  refine ⟨.inr trivial,⟨rfl,h.2⟩,fun _=>trivial,fun o ho=>?_,h.1.1⟩
  have:=h.1.2
  rw [ho] at this
  simpa using this
 have hgd:∀ (listed:Array Bool) i,i < listed.size -> listed.getD i true = listed.getD i false:=fun listed i hi=>by simp [Array.getD,hi]
 have hdeps:∀ o e,e ∈ o.after -> Region.binds .any e = true -> e.on ∈ deps o:=fun o e he hb =>
  List.mem_map.2 ⟨e,List.mem_filter.2 ⟨by simpa using he,hb⟩,rfl⟩
 have done:∀ (r:List Nat) (listed:Array Bool),r.Pairwise (fun p i=>relB opn ops cos A p i = true) -> (∀ i ∈ r,i < ops.size) -> listed.size = ops.size -> (∀ i,i < ops.size -> (listed.getD i true = true ↔ i ∉ r)) ->
   Region.ready .any ops listed = [] -> r = []:=fun r listed hp hlt hsz hl hr=>by
  cases r with
  | nil=>rfl
  | cons i r =>
   exfalso
   have hi:i < ops.size:=hlt i (by simp)
   have ho:ops[i]? = some ops[i]:=by simp [hi]
   have hin:i ∈ Region.ready .any ops listed:=by
    rw [mem_ready]
    refine ⟨?_,_,ho,fun e he hb=>?_⟩
    ·cases hq:listed.getD i true with
     | false=>rfl
     | true=>exact absurd ((hl i hi).1 hq) (by simp)
    ·have hd:=(hspec i _ ho).1 _ (hdeps _ e he hb)
     rw [<- hgd listed _ (by rw [hsz];exact hd.1)]
     refine (hl _ hd.1).2 (fun hm=>?_)
     rcases List.mem_cons.1 hm with he' | hm
     ·exact hd.2 he'
     ·have:=List.rel_of_pairwise_cons hp hm
      exact (hrel _ _ this).2.2.2.1 _ ho (hdeps _ e he hb)
   rw [hr] at hin
   cases hin
 intro fuel
 induction fuel with
 | zero =>
  intro r listed st hd a w hlen hp hlt hsz hl hdc hph R hrun
  have:r = []:=List.eq_nil_of_length_eq_zero (Nat.le_zero.1 hlen)
  subst this
  cases hrun
  refine ⟨?_,hK hd a w R⟩
  cases hq:Region.ready .any ops listed with
  | nil=>rfl
  | cons i l =>
   exfalso
   have hin:i ∈ Region.ready .any ops listed:=by rw [hq];simp
   obtain ⟨h0,o,ho,_⟩:=mem_ready.1 hin
   have:=(hl i (Array.getElem?_eq_some_iff.1 ho).1).2 (by simp)
   rw [h0] at this
   cases this
 | succ fuel ih =>
  intro r listed st hd a w hlen hp hlt hsz hl hdc hph R hrun
  refine ⟨fun hq=>?_,fun i hin=>?_⟩
  ·have:=done r listed hp hlt hsz hl hq
   subst this
   cases hrun
   exact hK hd a w R
  ·obtain ⟨h0,o,ho,hall⟩:=mem_ready.1 hin
   have hi:i < ops.size:=(Array.getElem?_eq_some_iff.1 ho).1
   have hir:i ∈ r:=by
    refine Decidable.byContradiction fun hn=>?_
    have:=(hl i hi).2 hn
    rw [h0] at this
    cases this
   obtain ⟨pre,post,rfl⟩:=List.append_of_mem hir
   have hpp:=List.pairwise_append.1 hp
   have hpre:∀ p ∈ pre,relB opn ops cos A p i = true:=fun p hpm=>hpp.2.2 p hpm i (by simp)
   have hpost:∀ p ∈ post,relB opn ops cos A i p = true:=fun p hpm=>List.rel_of_pairwise_cons hpp.2.1 hpm
   have hlisted:∀ d ∈ deps o,d ∉ pre ++ i :: post:=fun d hd=>by
    obtain ⟨e,he,rfl⟩:=List.mem_map.1 hd
    obtain ⟨he1,he2⟩:=List.mem_filter.1 he
    have hds:=((hspec i o ho).1 _ hd).1
    exact (hl _ hds).1 (by rw [hgd listed _ (by rw [hsz];exact hds)];exact hall e (by simpa using he1) he2)
   have hAi:∀ p ∈ A.getD i [],p ∉ pre ++ i :: post:=fun p hpA=>by
    rcases (hspec i o ho).2 p hpA with hd | ⟨d,hd,hpd⟩
    ·exact hlisted p hd
    ·exact hdc d ((hspec i o ho).1 d hd).1 (hlisted d hd) p hpd
   have hco:cos[i]? = some (cos[i]'(by rw [hc.1];exact hi)):=by simp [hc.1,hi]
   generalize hcoi:(cos[i]'(by rw [hc.1];exact hi)) = co at hco
   rw [List.filterMap_append,List.filterMap_cons,hco] at hrun
   obtain ⟨sp,hr1,sq,hr2,hr3⟩:=RunD.append hrun
   obtain ⟨s1,ho1,hrest⟩:=RunD.move hr1 hr2 (fun c hcm=>by
    obtain ⟨p,hpm,hpc⟩:=List.mem_filterMap.1 hcm
    rcases (hrel _ _ (hpre p hpm)).2.2.2.2 with hA' | hind
    ·exact absurd (by simp [hpm]) (hAi p hA')
    ·unfold indepAt at hind
     rw [hpc,hco] at hind
     exact hind) (fun x hx=>(R.sees x).scopedV) (fun e=>hph i (by simp) ((isFill_cls (opn:=opn) hco).2 e))
   refine od_okV R ho (hc.2 i o co ho hco) ho1 (fun hd' a' w' R'=>?_)
   have hni:i ∉ pre ++ post:=fun hm=>by
    rcases List.mem_append.1 hm with hm | hm
    ·exact (hrel _ _ (hpre i hm)).2.1.2 rfl
    ·exact (hrel _ _ (hpost i hm)).2.1.2 rfl
   have hsub:∀ j,j ∈ pre ++ post -> j ∈ pre ++ i :: post:=fun j hj=>by simp only [List.mem_append,List.mem_cons] at hj ⊢;rcases hj with h | h <;> simp [h]
   refine ih (pre ++ post) (listed.setIfInBounds i true) s1 hd' a' w' ?_ ?_ ?_ ?_ ?_ ?_ ?_ R' ?_
   ·simp only [List.length_append,List.length_cons] at hlen ⊢;omega
   ·exact hp.sublist (by simp)
   ·exact fun j hj=>hlt j (hsub j hj)
   ·simpa using hsz
   ·intro j hj
    by_cases he:i = j
    ·subst he
     refine ⟨fun _=>hni,fun _=>?_⟩
     simp [Array.getD,hsz,hi]
    ·rw [getD_set_ne true he,hl j hj]
     simp only [List.mem_append,List.mem_cons]
     constructor
     ·intro h1 h2;exact h1 (h2.elim .inl (fun h=>.inr (.inr h)))
     ·intro h1 h2;exact h1 (h2.elim .inl (fun h=>h.elim (fun e=>absurd e.symm he) .inr))
   ·intro j hj hjn p hpA hpm
    have hpm':=hsub p hpm
    by_cases he:j = i
    ·subst he;exact hAi p hpA hpm'
    ·refine hdc j hj (fun hm=>hjn ?_) p hpA hpm'
     simp only [List.mem_append,List.mem_cons] at hm ⊢
     rcases hm with h | h | h
     ·exact .inl h
     ·exact absurd h he
     ·exact .inr h
   ·intro f hf hff
    have hfr:=hsub f hf
    obtain ⟨b,hb⟩:=hph f hfr hff
    have hfi:i ≠ f:=fun e=>hni (by rw [e];exact hf)
    obtain ⟨e1,e2⟩:=hfill f (hlt f hfr) hff i hi hfi
    refine ⟨b,RunD.one_fill ?_ hb ho1⟩
    cases hcl:cls opn co.op with
    | pure=>exact .inl rfl
    | read=>exact .inr (.inl rfl)
    | alloc=>exact .inr (.inr (.inl rfl))
    | app=>exact .inr (.inr (.inr rfl))
    | fill =>
     have:=(isFill_cls (opn:=opn) hco).2 hcl
     rw [e1] at this
     cases this
    | write =>
     exfalso
     have hw:isWr opn cos i = true:=by unfold isWr;rw [hco];simp [hcl]
     exact hAi f (e2 hw) hfr
    | quiet =>
     exfalso
     have hw:isWr opn cos i = true:=by unfold isWr;rw [hco];simp [hcl]
     exact hAi f (e2 hw) hfr
   ·rw [List.filterMap_append]
    exact RunD.join hrest hr3
def phBlk:Blk:=⟨0,0,0,[],true,false⟩
def anyFill (cos:List CO):Bool:=cos.any fun c=>match c.op with | .fill ..=>true | _=>false
def waitSt (cos:List CO) (st:St):St:=if anyFill cos then ⟨st.t,st.h ++ [phBlk]⟩ else st
theorem Rel.wait (r:Rel X st hd a w):∃ hd',Rel X ⟨st.t,st.h ++ [phBlk]⟩ hd' a w:=by
 have key:=r.heap.new (grownBy_refl w none) (k:=phBlk) (v:=.slice none 0 0) (xs:=[]) (fun i r hi=>by simp [phBlk] at hi) (World.ownsRow_nil w X.B0 0 0) (fun i c u hc=>by simp [phBlk] at hc) (fun g hg=>by simp [Value.ownBlock] at hg) r.M0_lt (by simp [phBlk])
 exact ⟨_,r.step (dst:=none) (av:=.junk) (v:=undef) (grownBy_refl w none) rowOk_none key.1 key.2 (.junk _)⟩
theorem phIdx_new:∀ (h:List Blk),∃ b,phIdx (h ++ [phBlk]) = some b
 | []=>⟨0,rfl⟩
 | k :: h=>by
  obtain ⟨b,hb⟩:=phIdx_new h
  rw [List.cons_append]
  unfold phIdx
  split
  ·exact ⟨0,rfl⟩
  ·exact ⟨b + 1,by rw [hb];rfl⟩
theorem region_V_ok {id:Nat} (hm:P.follows .mixedOrders = true) (hc:allV P ops cos) {A:List (List Nat)} {ord:List Nat} (hA:regionOkV opn ops cos A ord = true) (r:Rel X st hd a w)
  (hr:RunD P opn (ord.filterMap (cos[·]?)) (waitSt cos st) st') (hK:∀ hd' a' w',Rel X st' hd' a' w' -> Q .normal a' w') :
  (Code.region id ops true).wpIn (Wd rd) n P Q a w:=by
 have hA':=hA
 unfold regionOkV at hA'
 simp only [Bool.and_eq_true] at hA'
 obtain ⟨⟨⟨⟨⟨hN,hP⟩,hL⟩,hC⟩,_⟩,_⟩:=hA'
 have hpw:=pairB_pw hP
 have hltO:∀ i ∈ ord,i < ops.size:=fun i hi=>by have:=List.all_eq_true.1 hL i hi;simpa using this
 have hcov:∀ i,i < ops.size -> i ∈ ord:=fun i hi=>by have:=List.all_eq_true.1 hC i (List.mem_range.2 hi);simpa using this
 have hlen:ord.length <= ops.size:=Nat.le_of_ble_eq_true hN
 have main:∀ (s0:St) (hd0:Nat -> Value),Rel X s0 hd0 a w -> (∀ f ∈ ord,isFill cos f = true -> ∃ b,phIdx s0.h = some b) -> RunD P opn (ord.filterMap (cos[·]?)) s0 st' -> (Code.region id ops true).wpIn (Wd rd) n P Q a w:=fun s0 hd0 r0 hph hr0=>by
  refine wpIn_region_any hm (anyV_ok hc hA hK ops.size ord _ s0 hd0 a _ hlen hpw hltO (by simp) (fun i hi=>?_) (fun j hj hjn=>absurd (hcov j hj) hjn) hph (r0.drawn _) hr0)
  have:(Array.replicate ops.size false).getD i true = false:=by simp [Array.getD,hi]
  rw [this]
  simp [hcov i hi]
 unfold waitSt at hr
 by_cases hf:anyFill cos = true
 ·rw [if_pos hf] at hr
  obtain ⟨hd',r'⟩:=r.wait
  exact main _ hd' r' (fun _ _ _=>phIdx_new st.h) hr
 ·rw [if_neg hf] at hr
  refine main st hd r (fun f hfo hff=>?_) hr
  exfalso
  apply hf
  unfold isFill at hff
  cases hcf:cos[f]? with
  | none=>rw [hcf] at hff;cases hff
  | some c =>
   rw [hcf] at hff
   unfold anyFill
   rw [List.any_eq_true]
   exact ⟨c,List.mem_of_getElem? hcf,hff⟩
end Go.Am
