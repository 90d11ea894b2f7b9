/- The abstract memory: what a law is handed, as closed data, with its bulk. -/
import Derived.Test.YtncgbjhojbnecaaA5
import Derived.Test.YtncgbjhojbnecaaEF
import Derived.Test.YtncgbjhojbnecaaVK
set_option linter.unusedSimpArgs false
set_option linter.unusedVariables false
set_option linter.unnecessarySimpa false
namespace Go.Am
open Go.RowKit Go.Off Go.ChangeShapes Go.WideShapes
variable {GL:Glb}
def ReadsB (mu:(H:Type) -> DataW H -> Nat) (P:Program) (t:TypeId) (R:Nat -> List CV -> Prop):Prop :=
 ∀ (H:Type) (enc:TypeId × Value -> H) (w:World) (fuel:Nat) (cs:List Value) (x:DataW H × List MemPlace),
  DataW.trod enc P w 0 (fun _=>true) true fuel t cs = some x -> ∃ l,R (mu H x.1) l /\ PW (CR w (fun _=>False)) l cs
variable {P:Program} {t e:TypeId} {mu:(H:Type) -> DataW H -> Nat}
theorem readsB_of {R:List CV -> Prop} (h:Reads P t R):ReadsB mu P t (fun _ l=>R l):=fun H enc w fuel cs x hx=>h H enc w fuel cs x hx
theorem readsB_mono {R S:Nat -> List CV -> Prop} (h:ReadsB mu P t R) (hh:∀ n l,R n l -> S n l):ReadsB mu P t S:=fun H enc w fuel cs x hx=>by
 obtain ⟨l,h1,h2⟩:=h H enc w fuel cs x hx
 exact ⟨l,hh _ l h1,h2⟩
theorem readsB_slice {k:Nat} {α:Type} {f:α -> List CV} {p:Nat -> α -> Prop} (hlen:∀ (H:Type) (e s:List (DataW H)),e.length <= mu H (.slice e s)) (hmem:∀ (H:Type) (e s:List (DataW H)) (d:DataW H),d ∈ e -> mu H d <= mu H (.slice e s)) (hmono:∀ m n a,m <= n -> p m a -> p n a) (ht:P.underlying t = some (.slice e)) (hk:P.cellsOf e = k) (hk0:0 < k) (hf:∀ a,(f a).length = k)
  (he:ReadsB mu P e (fun n l=>∃ a,p n a /\ l = f a)):ReadsB mu P t (fun n l=>∃ s:Option (List α),((∀ a ∈ osl s,p n a) /\ (osl s).length <= n) /\ l = [encSl k f s]):=fun H enc w fuel cs x h=>by
 rcases Go.Deep.open_slice ht h with ⟨rfl,_⟩ | ⟨a,len,cap,m,n,D,Pl,rfl,_,hlc,hmx,hm,rfl,hel⟩
 ·exact ⟨_,⟨none,by simp [osl],rfl⟩,.cons (.val _ rfl) .nil⟩
 ·simp only [if_true] at hm
  subst hm
  rw [hk] at hel
  by_cases hc0:m = 0
  ·subst hc0
   obtain rfl:len = 0:=by omega
   exact ⟨_,⟨some [],by simp [osl],rfl⟩,.cons (.emp _ _) .nil⟩
  ·obtain ⟨g,off,spot⟩:=a
   obtain ⟨cs0,hcs0,_⟩:=hel 0 (by omega)
   obtain ⟨hl0,hc0'⟩:=cells_at hcs0
   have hcell0:=hc0' 0 (cs0[0]'(by omega)) (List.getElem?_eq_getElem _)
   have hspot:spot = none:=by simpa [Addr.add] using World.cell?_spot hcell0
   subst hspot
   have hlt:g < w.heap.size:=by
    unfold World.cell? at hcell0
    split at hcell0
    ·rename_i c _ _ hg
     have:=(Array.getElem?_eq_some_iff.1 hg).1
     simpa [Addr.add] using this
    ·cases hcell0
   have ch:∀ i,i < len -> ∃ a:α,p (mu H (.slice ((List.range len).map D) ((List.range (m - len)).map fun j=>D (len + j)))) a /\ ∃ cs',w.cells? 0 ((⟨g,off,none⟩:Addr).add (i * k)) k = some cs' /\ PW (CR w (fun _=>False)) (f a) cs':=fun i hi=>by
    obtain ⟨cs',h1,h2⟩:=hel i (by omega)
    obtain ⟨l,⟨a,ha,rfl⟩,hpw⟩:=he H enc w n cs' _ h2
    exact ⟨a,hmono _ _ a (hmem H _ _ _ (List.mem_map.2 ⟨i,List.mem_range.2 hi,rfl⟩)) ha,cs',h1,hpw⟩
   obtain ⟨l,hl,hq⟩:=list_of ch
   have hq':∀ i a,l[i]? = some a -> ∀ j,j < k -> ∃ v,w.cell? ⟨g,off + (i * k + j),none⟩ = some v /\ ∀ c,(f a)[j]? = some c -> CR w (fun _=>False) c v:=fun i a hi j hj=>by
    obtain ⟨_,cs',h1,h2⟩:=hq i a hi
    obtain ⟨h3,h4⟩:=cells_at h1
    have h5:=h4 j (cs'[j]'(by omega)) (List.getElem?_eq_getElem _)
    refine ⟨cs'[j]'(by omega),?_,fun c hc=>h2.2 j c _ hc (List.getElem?_eq_getElem _)⟩
    rw [addr_add,addr_add] at h5
    rw [show off + (i * k + j) = off + i * k + j by omega]
    exact h5
   refine ⟨_,⟨some l,⟨fun a ha=>?_,by
     have hl2:=hlen H ((List.range len).map D) ((List.range (m - len)).map fun j=>D (len + j))
     rw [List.length_map,List.length_range] at hl2
     show l.length <= mu H (.slice ((List.range len).map D) ((List.range (m - len)).map fun j=>D (len + j)))
     omega⟩,rfl⟩,.cons ?_ .nil⟩
   ·obtain ⟨i,hi,rfl⟩:=List.getElem_of_mem ha
    exact (hq i _ (List.getElem?_eq_getElem hi)).1
   ·have:=CR.sl (w:=w) (bad:=fun _=>False) k (l.map f) g off m (fun i j=>(w.cell? ⟨g,off + (i * k + j),none⟩).getD undef) (by rw [List.length_map];omega) (fun h=>h) hlt
     (fun i r hi=>by
      rw [List.getElem?_map] at hi
      cases hli:l[i]? with
      | none=>simp [hli] at hi
      | some a=>simp [hli] at hi;subst hi;exact hf a)
     (fun i j hi hj=>by
      rw [List.length_map] at hi
      obtain ⟨v,hv,_⟩:=hq' i _ (List.getElem?_eq_getElem hi) j hj
      rw [hv];rfl)
     (fun i j r c hi hj=>by
      rw [List.getElem?_map] at hi
      cases hli:l[i]? with
      | none=>simp [hli] at hi
      | some a =>
       simp [hli] at hi
       subst hi
       have hjk:j < k:=by rw [<- hf a];exact (List.getElem?_eq_some_iff.1 hj).1
       obtain ⟨v,hv,hc⟩:=hq' i a hli j hjk
       rw [hv]
       exact hc c hj)
    rw [List.length_map,hl] at this
    exact this
theorem readsB_struct2 {f0 f1:Field} {R0 R1:Nat -> List CV -> Prop} (hmem:∀ (H:Type) (e:List (DataW H)) (d:DataW H),d ∈ e -> mu H d <= mu H (.agg e)) (hm0:∀ m n a,m <= n -> R0 m a -> R0 n a) (hm1:∀ m n a,m <= n -> R1 m a -> R1 n a) {c0 c1:Nat} (ht:P.underlying t = some (.struct #[f0,f1])) (h0:f0.offset = 0) (hc0:P.cellsOf f0.type = c0) (h1:f1.offset = c0) (hc1:P.cellsOf f1.type = c1)
  (hc:P.cellsOf t = c0 + c1) (r0:ReadsB mu P f0.type R0) (r1:ReadsB mu P f1.type R1):ReadsB mu P t (fun n l=>∃ l0 l1,R0 n l0 /\ R1 n l1 /\ l = l0 ++ l1):=fun H enc w fuel cs x h=>by
 obtain ⟨y0,y1,n,rfl,hl,k0,k1⟩:=trod_struct2 ht h
 obtain ⟨l0,a0,p0⟩:=r0 H enc w n _ _ k0
 obtain ⟨l1,a1,p1⟩:=r1 H enc w n _ _ k1
 refine ⟨_,⟨l0,l1,hm0 _ _ _ (hmem H _ _ (by simp)) a0,hm1 _ _ _ (hmem H _ _ (by simp)) a1,rfl⟩,?_⟩
 have:=p0.append p1
 rw [h0,hc0,h1,hc1,List.drop_zero] at this
 have e1:(cs.drop c0).take c1 = cs.drop c0:=List.take_of_length_le (by rw [List.length_drop,hl,hc];omega)
 rw [e1,List.take_append_drop] at this
 exact this
theorem avr_cellB {R:Nat -> List CV -> Prop} (hr:ReadsB mu P t R) {H:Type} {enc:TypeId × Value -> H} {W:World} {v:Value} {d:DataW H} {ps:List MemPlace} (h:DataW.Trod enc P W 0 (fun _=>true) true t v d ps)
  (hv:v.cells.toList = [v]):∃ c,R (mu H d) [c] /\ AVR W (fun _=>False) [] hd00 (.one (.c c)) v:=by
 obtain ⟨fuel,hf⟩:=h
 obtain ⟨l,h1,h2⟩:=hr H enc W fuel _ _ hf
 rw [hv] at h2
 match l,h2 with
 | [c],h2=>exact ⟨c,h1,.one _ _ (.c _ _ (h2.2 0 c v rfl rfl))⟩
 | [],h2=>exact absurd h2.1 (by simp)
 | _ :: _ :: _,h2=>exact absurd h2.1 (by simp)
end Go.Am
set_option maxRecDepth 100000
set_option maxHeartbeats 4000000
namespace Go.Proofs.Ytncgbjhojbnecaa
open Go Go.Am Go.Proofs Go.RowKit Go.Off
def muB (H:Type) (d:DataW H):Nat:=Rows.uptoBulk d
theorem bulk_one {H:Type} (d:DataW H):1 <= Rows.uptoBulk d:=by
 cases d with
 | lit l=>cases l <;> simp [Rows.uptoBulk]
 | nil=>simp [Rows.uptoBulk]
 | ptr d=>simp [Rows.uptoBulk]
 | slice elems spare=>simp [Rows.uptoBulk]
 | agg parts=>simp [Rows.uptoBulk]
 | iface t d=>simp [Rows.uptoBulk]
 | map entries=>simp [Rows.uptoBulk]
 | held h=>simp [Rows.uptoBulk]
theorem bulk_part {H:Type} {d:DataW H} {l:List (DataW H)} (h:d ∈ l):Rows.uptoBulk d <= Rows.uptoBulkAll l:=by
 induction l with
 | nil=>cases h
 | cons x r ih =>
  simp only [Rows.uptoBulkAll]
  cases List.mem_cons.1 h with
  | inl e=>subst e;omega
  | inr e=>have:=ih e;omega
theorem bulk_len {H:Type} (l:List (DataW H)):l.length <= Rows.uptoBulkAll l:=by
 induction l with
 | nil=>simp [Rows.uptoBulkAll]
 | cons x r ih=>have:=bulk_one x;simp only [Rows.uptoBulkAll,List.length_cons];omega
theorem muB_len (H:Type) (e s:List (DataW H)):e.length <= muB H (.slice e s):=by
 have:=bulk_len e
 simp only [muB,Rows.uptoBulk];omega
theorem muB_mem (H:Type) (e s:List (DataW H)) (d:DataW H) (h:d ∈ e):muB H d <= muB H (.slice e s):=by
 have:=bulk_part h
 simp only [muB,Rows.uptoBulk];omega
theorem muB_agg (H:Type) (e:List (DataW H)) (d:DataW H) (h:d ∈ e):muB H d <= muB H (.agg e):=by
 have:=bulk_part h
 simp only [muB,Rows.uptoBulk];omega
theorem rb_nat:ReadsB muB Try.prog 37 (fun n l=>∃ r:Row,(osl r).length <= n /\ l = [nr r]):=readsB_mono (readsB_slice (k:=1) (p:=fun _ _=>True) muB_len muB_mem (fun _ _ _ _ h=>h) Try.underlying37 (by kernel_rfl) (by decide) (fun a=>rfl) (readsB_of rd_u32)) (by
 rintro n l ⟨s,⟨_,h⟩,rfl⟩
 exact ⟨s,h,rfl⟩)
theorem rb_whole:ReadsB muB Try.prog 39 (fun n l=>∃ (b:Bool) (r:Row),(osl r).length <= n /\ l = [.val (.bool b),nr r]):=readsB_mono (readsB_struct2 (c0:=1) (c1:=1) muB_agg (fun _ _ _ _ h=>h) (fun m n a hm ⟨r,h,e⟩=>⟨r,Nat.le_trans h hm,e⟩) Try.underlying39 rfl (by kernel_rfl) rfl (by kernel_rfl) (by kernel_rfl) (readsB_of rd_bool) rb_nat) (by
 rintro n l ⟨l0,l1,⟨b,rfl⟩,⟨r,h,rfl⟩,rfl⟩
 exact ⟨b,r,h,rfl⟩)
theorem rb_rat:ReadsB muB Try.prog 41 (fun n l=>∃ r:RR,Fits r n /\ l = fR r):=readsB_mono (readsB_struct2 (c0:=2) (c1:=1) muB_agg (fun m n a hm ⟨b,r,h,e⟩=>⟨b,r,Nat.le_trans h hm,e⟩) (fun m n a hm ⟨r,h,e⟩=>⟨r,Nat.le_trans h hm,e⟩) Try.underlying41 rfl (by kernel_rfl) rfl (by kernel_rfl) (by kernel_rfl) rb_whole rb_nat) (by
 rintro n l ⟨l0,l1,⟨b,s,h1,rfl⟩,⟨d,h2,rfl⟩,rfl⟩
 exact ⟨⟨b,s,d⟩,⟨h1,h2⟩,rfl⟩)
theorem rb_vec:ReadsB muB Try.prog 23 (fun n l=>∃ a:VV,((osl a).length <= n /\ ∀ r ∈ osl a,Fits r n) /\ l = [vr a]):=readsB_mono (readsB_slice (k:=3) (p:=fun n r=>Fits r n) muB_len muB_mem (fun _ _ _ hm h=>h.mono hm) Try.underlying23 (by kernel_rfl) (by decide) (fun a=>rfl) rb_rat) (by
 rintro n l ⟨s,⟨h1,h2⟩,rfl⟩
 exact ⟨s,⟨h2,h1⟩,rfl⟩)
theorem bulk_of {H:Type} {l:List (DataW H)} (hk:Rows.uptoSmall H l = true) {d:DataW H} (h:d ∈ l):muB H d <= 1048576:=by
 have h1:Rows.uptoBulkAll l <= 1048576:=of_decide_eq_true hk
 have:=bulk_part h
 simp only [muB];omega
end Go.Proofs.Ytncgbjhojbnecaa
