/- Rows of fractions. -/
import Derived.RangeFuncBox
import Derived.RangeFuncBound
import Derived.Shelf.Abstract
import Derived.WalkKit
import Derived.OwnWalkIn
import Derived.TacticsInMore
import Derived.LoopNIn
import Derived.LoopIn
import Derived.Test.YtncgbjhojbnecaaProg
import Derived.Test.YtncgbjhojbnecaaRows
import Derived.Test.YtncgbjhojbnecaaA5
import Derived.Test.YtncgbjhojbnecaaC3
set_option linter.unusedSimpArgs false
set_option linter.unusedVariables false
set_option linter.unnecessarySimpa false
set_option maxRecDepth 100000
set_option maxHeartbeats 4000000
namespace Go.Proofs.Ytncgbjhojbnecaa
open Go Go.Am Go.Proofs Go.RowKit Go.Off
open Nat renaming reduceAdd -> nA,reduceSub -> nS,reduceMul -> nM,reduceBEq -> nB
open Int renaming reduceToNat -> iT,reduceAdd -> iA,reduceSub -> iS,reduceMul -> iM,reduceNeg -> iN
def fR (r:RR):List CV:=[.val (.bool r.minus),nr r.size,nr r.den]
abbrev VV:=Option (List RR)
abbrev vr (a:VV):CV:=encSl 3 fR a
abbrev aV (a:VV):AV:=.one (.c (vr a))
def zR:RR:=⟨false,none,none⟩
def rAt (a:VV) (i:Nat):RR:=(osl a).getD i zR
theorem FitsQ.add1 {a b:Rat} {L M:Nat} (h1:FitsQ a L) (h2:FitsQ b M):FitsQ (a + b) (L + M + 1):=by
 rw [Rat.add_def']
 have hW:(0:Nat) < 4294967296:=by decide
 refine fits_mk _ _ (Nat.mul_ne_zero a.den_nz b.den_nz) ?_ ?_
 ·have l1:∀ {x k:Nat},(digits x).length <= k -> x < 4294967296 ^ k:=fun {x k} h=>by
   have:=val_lt (digits x)
   rw [val_digits] at this
   exact Nat.lt_of_lt_of_le this (Nat.pow_le_pow_right hW h)
  have a1:=l1 h1.1
  have a2:=l1 h1.2
  have b1:=l1 h2.1
  have b2:=l1 h2.2
  refine digits_len_le ?_
  have e4:(a.num * b.den + b.num * a.den).natAbs <= a.num.natAbs * b.den + b.num.natAbs * a.den:=by
   have:=Int.natAbs_add_le (a.num * b.den) (b.num * a.den)
   rwa [Int.natAbs_mul,Int.natAbs_mul,Int.natAbs_natCast,Int.natAbs_natCast] at this
  have e1:=Nat.mul_lt_mul'' a1 b2
  have e2:=Nat.mul_lt_mul'' b1 a2
  rw [<- Nat.pow_add] at e1
  rw [<- Nat.pow_add,Nat.add_comm M L] at e2
  rw [Nat.pow_succ]
  generalize 4294967296 ^ (L + M) = w at *
  omega
 ·have:=digits_len_mul a.den b.den;have:=h1.2;have:=h2.2;omega
def FitsV (a:VV) (n L:Nat):Prop:=(osl a).length <= n /\ ∀ r ∈ osl a,Fits r L
theorem fits_zR (L:Nat):Fits zR L:=⟨Nat.zero_le _,Nat.zero_le _⟩
theorem FitsV.at {a:VV} {n L:Nat} (h:FitsV a n L) (i:Nat):Fits (rAt a i) L:=by
 unfold rAt
 rw [List.getD_eq_getElem?_getD]
 cases hi:(osl a)[i]? with
 | none=>exact fits_zR L
 | some r=>exact h.2 r (List.mem_of_getElem? hi)
theorem fitsQ_zero (L:Nat) (hL:1 <= L):FitsQ 0 L:=by
 refine ⟨?_,?_⟩
 ·show (digits 0).length <= L;rw [digits_zero];exact Nat.zero_le _
 ·show (digits 1).length <= L;rw [len1];exact hL
theorem fitsQ_mul {a b:RR} {L M:Nat} (h1:Fits a L) (h2:Fits b M) (hL:1 <= L) (hM:1 <= M):FitsQ (a.val * b.val) (L + M):=(h1.val hL).mul (h2.val hM)
theorem sgn_zero_iff (z:Int):sgn z = 0 ↔ z = 0:=by unfold sgn;split <;> (try split) <;> omega
theorem top_zero (r:RR):r.top = 0 ↔ r.val = 0:=by
 unfold RR.val
 rw [Rat.mkRat_eq_zero r.bot_ne]
def qAt (a:VV) (i:Nat):Rat:=(rAt a i).val
theorem zR_val:zR.val = 0:=rfl
theorem rAt_out {a:VV} {i:Nat} (h:(osl a).length <= i):rAt a i = zR:=by
 simp only [rAt,List.getD_eq_getElem?_getD];rw [List.getElem?_eq_none_iff.2 h];rfl
theorem rAt_in {a:VV} {i:Nat} (h:i < (osl a).length):rAt a i = (osl a)[i]:=by
 simp only [rAt,List.getD_eq_getElem?_getD];rw [List.getElem?_eq_getElem h];rfl
def fI (n:Int):List CV:=[.val (.int .i64 n)]
theorem encB_snoc_row (l:List RR) (r:RR):encB fR l ++ [[Cell.c (.val (.bool r.minus)),Cell.c (nr r.size),Cell.c (nr r.den)]] = encB fR (l ++ [r]):=by simp [encB,fR]
abbrev c20_k1:CC:=(.seq (.reg [⟨some 18,none,.mv (.tmp 3)⟩,⟨some 2,none,.mv (.tmp 18)⟩]) .ret)
abbrev c20_b1:CC:=(.seq (.reg [⟨some 9,none,.bin .lss (.tmp 8) (.tmp 7)⟩]) (.seq (.cond (.tmp 9) .skip (.exit 0)) (.seq (.block 1 (.seq (.reg [⟨some 10,none,.iaddr 1 none (.tmp 6) (.tmp 8)⟩,⟨some 11,none,.load 1 false (.tmp 10)⟩,⟨some 5,none,.mv (.tmp 11)⟩]) (.reg [⟨some 12,none,.mv (.tmp 3)⟩,⟨some 13,none,.mv (.tmp 5)⟩,⟨some 14,none,.callf (.func 15) [(.tmp 13)]⟩,⟨some 15,none,.mkrow 41 3 [(.tmp 14)]⟩,⟨some 16,none,.append 41 3 56 (.tmp 12) (.tmp 15)⟩,⟨some 3,none,.mv (.tmp 16)⟩]))) (.reg [⟨some 17,none,.bin .add (.tmp 8) (.const (.int .i64 (1)))⟩,⟨some 8,none,.mv (.tmp 17)⟩]))))
abbrev c20:CC:=(.seq (.reg [⟨some 2,none,.mv (.const (.slice none 0 0))⟩]) (.seq (.reg [⟨some 3,none,.mv (.const (.slice none 0 0))⟩]) (.seq (.seq (.reg [⟨some 6,none,.mv (.tmp 0)⟩,⟨some 7,none,.len false (.tmp 6)⟩,⟨some 8,none,.mv (.const (.int .i64 (0)))⟩]) (.block 0 (.loop c20_b1))) c20_k1)))
theorem cc20:ccode Try.prog [] (Try.f20.body.getD .skip) = some c20:=by kernel_rfl
theorem body20:Try.f20.body = some (Try.f20.body.getD .skip):=rfl
theorem ints_C (a:List Int) (hl:a.length <= 1000000) (hb:∀ n ∈ a,-9223372036854775808 <= n /\ n <= 9223372036854775807) :
  PureC Try.prog 20 [.one (.c (encSl 1 fI (some a)))] (.fresh 41 3 ((a.map fun n:Int=>rawQ (n:Rat)).map fR) (!a.isEmpty)):=by
 refine pureC_of (rs:=[(RV.tmp 2)]) Try.func20 (fun a w=>Try.call20 a w) body20 cc20 (by kernel_rfl) ?_
 rw [Try.ntmps20]
 simp only [frs,nA,nS]
 repeat (first | (with_reducible first | refine Way.imp ?_ | refine blk_o rfl ?_) | ((with_reducible refine WayR.imp (fun K hK=>?_));simp (disch:=first | omega | (simp only [dls];omega)) only [std,reduceIte,reduceCtorEq,iT,nA,nS,nM,iA,iS,iM,iN,fU];subst hK))
 refine AWp.fgt ?_ (Fgt.openNil (i:=3) rfl 41 3)
 simp only [List.set_cons_succ,List.set_cons_zero,List.length_nil,List.length_cons,List.nil_append,List.cons_append,nA]
 refine awp_loop (fun (zz:Nat × (List RR) × Nat × Bool)=>⟨(.one (.c (encSl 1 fI (some a))) :: .junk :: .one (.c (.val (.slice none 0 0))) :: .one (.own 0 zz.2.2.1) :: .junk :: .junk :: .one (.c (encSl 1 fI (some a))) :: aI a.length :: aI zz.1 :: .junk :: .junk :: .junk :: .junk :: .junk :: .junk :: .junk :: .junk :: .junk :: .junk :: []),[⟨zz.2.2.1,41,3,encB fR zz.2.1,true,zz.2.2.2⟩]⟩) (fun (zz:Nat × (List RR) × Nat × Bool)=>zz.1 <= a.length /\ zz.2.1 = (a.take zz.1).map (fun n:Int=>rawQ (n:Rat)) /\ zz.2.2.2 = !zz.2.1.isEmpty) (fun (zz:Nat × (List RR) × Nat × Bool)=>a.length - zz.1) (0,[],0,false) ?hI1 (Fgt.head (Nat.zero_le 1) [true,false,true,true,false,false,true,true,true] ?hT1 ?hH1) ?hB1
 case hT1=>first | (simp (disch:=omega) only [hds,liveT,cleanAV,cleanCell,clean1,cleanBlk,reduceIte,iS,iA,iN,encB_nil];done) | rfl
 case hH1=>first | (simp (disch:=omega) only [hds,liveT,cleanAV,cleanCell,clean1,cleanBlk,reduceIte,iS,iA,iN,encB_nil];done) | rfl
 ·dsimp only;exact ⟨by omega,rfl,rfl⟩
 rintro ⟨i,out,v,nn⟩ ⟨hi,ho,hnn⟩
 dsimp only at hi ho hnn
 by_cases him:i = a.length
 ·repeat (first | (with_reducible first | refine Way.imp ?_ | refine blk_o rfl ?_) | ((with_reducible refine WayR.imp (fun K hK=>?_));simp (disch:=first | omega | (simp only [dls];omega)) only [std,reduceIte,reduceCtorEq,iT,nA,nS,nM,iA,iS,iM,iN,fU];subst hK))
  refine ⟨_,rfl,?_⟩
  rw [him,List.take_length] at ho
  have he:(!a.isEmpty) = nn:=by rw [hnn,ho];cases a <;> rfl
  rw [he,<- ho]
  exact Ends.fresh_enc rfl
 ·have hlt:i < a.length:=by omega
  have hbi:=hb a[i] (List.getElem_mem hlt)
  have hint:=rint_C a[i] hbi.1 hbi.2
  have hol:out.length = i:=by rw [ho,List.length_map,List.length_take];omega
  repeat (first | (with_reducible first | refine Way.imp ?_ | refine blk_o rfl ?_) | ((with_reducible refine WayR.imp (fun K hK=>?_));simp (disch:=first | omega | (simp only [dls];omega)) only [std,reduceIte,reduceCtorEq,iT,nA,nS,nM,iA,iS,iM,iN,fU,fI];subst hK) | refine zcA (hint) rfl rfl rfl ?_)
  refine ⟨(i + 1,out ++ [rawQ (a[i]:Rat)],v + 1,true),?hI2,?hM2,Fgt.head (Nat.zero_le 1) [true,false,true,true,false,false,true,true,true] ?hT2 ?hH2⟩
  case hT2=>first | (simp (disch:=omega) only [hds,liveT,cleanAV,cleanCell,clean1,cleanBlk,reduceIte,iS,iA,iN,encB_snoc_row,List.isEmpty_cons,Bool.or_true,Bool.not_false];done) | rfl
  case hH2=>first | (simp (disch:=omega) only [hds,liveT,cleanAV,cleanCell,clean1,cleanBlk,reduceIte,iS,iA,iN,encB_snoc_row,List.isEmpty_cons,Bool.or_true,Bool.not_false];done) | rfl
  ·dsimp only
   refine ⟨by omega,?_,by simp⟩
   rw [ho,List.take_succ_eq_append_getElem hlt,List.map_append]
   rfl
  ·dsimp only;omega
end Go.Proofs.Ytncgbjhojbnecaa
namespace Go.Proofs.Ytncgbjhojbnecaa
open Go Go.Am Go.Proofs Go.RowKit Go.Shelf Go.Off
open Nat renaming reduceAdd -> nA,reduceSub -> nS,reduceMul -> nM,reduceBEq -> nB
open Int renaming reduceToNat -> iT,reduceAdd -> iA,reduceSub -> iS,reduceMul -> iM,reduceNeg -> iN
attribute [local go_sem] Oper.semAt_some
def rowsOf (f:Nat -> Nat -> Value) (len:Nat):List (List CV):=(List.range len).map fun i=>[.val (f i 0),.val (f i 1),.val (f i 2)]
theorem rowsOf_len (f:Nat -> Nat -> Value) (len:Nat):(rowsOf f len).length = len:=by simp [rowsOf]
theorem rowsOf_at (f:Nat -> Nat -> Value) {len i:Nat} (h:i < len):(rowsOf f len)[i]? = some [.val (f i 0),.val (f i 1),.val (f i 2)]:=by simp [rowsOf,h]
theorem rowsOf_cr {w:World} {bad:Nat -> Prop} {f:Nat -> Nat -> Value} {b off len cap:Nat} (h1:∀ i j,(f i j).oneCell' = true) (hcap:len <= cap) (hb:¬ bad b) (hl:b < w.heap.size)
  (hc:∀ i j,i < len -> j < 3 -> w.cell? ⟨b,off + (i * 3 + j),none⟩ = some (f i j)):CR w bad (.sl 3 (rowsOf f len)) (.slice (some ⟨b,off,none⟩) len cap):=by
 have:=CR.sl (w:=w) (bad:=bad) 3 (rowsOf f len) b off cap f (by rw [rowsOf_len];exact hcap) hb hl (fun i r hr=>?_) (fun i j hi hj=>hc i j (by rwa [rowsOf_len] at hi) hj) (fun i j r x hr hx=>?_)
 ·rwa [rowsOf_len] at this
 ·have hi:=(List.getElem?_eq_some_iff.1 hr).1
  rw [rowsOf_len] at hi
  rw [rowsOf_at f hi] at hr
  cases hr;rfl
 ·have hi:=(List.getElem?_eq_some_iff.1 hr).1
  rw [rowsOf_len] at hi
  rw [rowsOf_at f hi] at hr
  cases hr
  match j,hx with
  | 0,hx=>cases hx;exact .val _ (h1 _ _)
  | 1,hx=>cases hx;exact .val _ (h1 _ _)
  | 2,hx=>cases hx;exact .val _ (h1 _ _)
abbrev pre158:List CO:=[⟨(some 13),none,(COp.mv (Operand.tmp 0))⟩,⟨(some 14),none,(COp.mv (Operand.tmp 4))⟩,⟨(some 15),none,(COp.load 1 false (Operand.tmp 1))⟩,⟨(some 16),none,(COp.mv (Operand.tmp 4))⟩,⟨(some 17),none,(COp.iaddr 3 none (Operand.tmp 15) (Operand.tmp 16))⟩,⟨(some 18),none,(COp.load 3 true (Operand.tmp 17))⟩,⟨(some 19),none,(COp.load 1 false (Operand.tmp 2))⟩,⟨(some 20),none,(COp.mv (Operand.tmp 4))⟩,⟨(some 21),none,(COp.iaddr 3 none (Operand.tmp 19) (Operand.tmp 20))⟩,⟨(some 22),none,(COp.load 3 true (Operand.tmp 21))⟩,⟨(some 23),none,(COp.build [(Value.bool false),(Value.slice none 0 0),(Value.slice none 0 0),(Value.bool false),(Value.slice none 0 0),(Value.slice none 0 0)] [(0,(3,(Operand.tmp 18))),(3,(3,(Operand.tmp 22)))])⟩]
theorem avr_val {w:World} {bad:Nat -> Prop} {h:List Blk} {hd:Nat -> Value} {v u:Value} (hx:AVR w bad h hd (.one (.c (.val v))) u):v = u:=by
 cases hx with
 | one _ _ hx=>cases hx with
  | c _ _ hx=>cases hx;rfl
theorem avr_aggv {w:World} {bad:Nat -> Prop} {h:List Blk} {hd:Nat -> Value} {l:List Value} {u:Value} (hx:AVR w bad h hd (.agg (l.map fun v=>.c (.val v))) u):u = .agg l.toArray:=by
 cases hx with
 | agg _ vs hl hv =>
  congr 2
  apply List.ext_getElem?
  intro i
  rw [List.length_map] at hl
  cases hi:vs[i]? with
  | none=>rw [List.getElem?_eq_none_iff] at hi;exact (List.getElem?_eq_none_iff.2 (by omega)).symm
  | some v =>
   have hlt:i < l.length:=by rw [hl];exact (List.getElem?_eq_some_iff.1 hi).1
   have:=hv i (.c (.val l[i])) v (by rw [List.getElem?_map,List.getElem?_eq_getElem hlt];rfl) hi
   cases this with
   | c _ _ hx=>cases hx;rw [List.getElem?_eq_getElem hlt]
def G158 (base:Array Value) (a:Act):Prop:=a.defers = [] /\ ∀ i:Nat,i < 13 -> a.tmps[i]? = base[i]?
theorem G158_put {base:Array Value}:∀ co ∈ pre158,∀ a v,G158 base a -> G158 base (a.put co.dst v):=by
 intro co hco a v ⟨h1,h2⟩
 have hd:∃ d:Nat,co.dst = some d /\ 13 <= d:=by
  simp only [pre158,List.mem_cons,List.not_mem_nil,or_false] at hco
  rcases hco with rfl | rfl | rfl | rfl | rfl | rfl | rfl | rfl | rfl | rfl | rfl <;> exact ⟨_,rfl,by decide⟩
 obtain ⟨d,hd,hlt⟩:=hd
 rw [hd]
 refine ⟨h1,fun i hi=>?_⟩
 show (a.tmps.setIfInBounds d v)[i]? = _
 rw [Array.getElem?_setIfInBounds,if_neg (show ¬ d = i by omega)]
 exact h2 i hi
set_option maxRecDepth 100000 in
set_option maxHeartbeats 4000000 in
theorem pairs1_in (F:Fence) (hF:F.fn 82) (hro:F.round = none) (hFw:∃ _:Unit,F = Wd none) (n:Nat) (hn:1 <= n) (l As oa Bs ob:Nat) (ba offa lena capa bb offb lenb capb m:Nat) (hm:m = min lena lenb) (w:World) (bad:Nat -> Prop) (f g:Nat -> Nat -> Value) (h1:∀ i j,(f i j).oneCell' = true) (h2:∀ i j,(g i j).oneCell' = true)
  (hla:lena <= 1000000000000) (hlb:lenb <= 1000000000000) (hAl:As < w.heap.size) (hAn:¬ bad As) (hBl:Bs < w.heap.size) (hBn:¬ bad Bs) (hal:ba < w.heap.size) (han:¬ bad ba) (hbl:bb < w.heap.size) (hbn:¬ bad bb) (J Jx:List Nat -> World -> Prop) (W:World)
  (hY:∀ pre (x:Nat) W,J pre W -> pre.length < m -> x < m -> YieldAt F (n - 1) Try.prog l #[.int .i64 (x:Int),.agg #[f x 0,f x 1,f x 2,g x 0,g x 1,g x 2]] W fun e W' =>
   ∃ b,e = .returned (.bool b) /\ (b = true -> J (pre ++ [x]) W' /\ KpOf w bad W W') /\ (b = false -> Jx (pre ++ [x]) W'))
  (hJd:∀ pre W W',J pre W -> W.grownBy W' none -> J pre W') (hbad:∀ g,bad g -> g < w.heap.size) (hwW:w.heap.size <= W.heap.size) (hcapa:lena <= capa) (hcapb:lenb <= capb)
  (hAs:W.cell? ⟨As,oa,none⟩ = some (.slice (some ⟨ba,offa,none⟩) lena capa)) (hBs:W.cell? ⟨Bs,ob,none⟩ = some (.slice (some ⟨bb,offb,none⟩) lenb capb))
  (hca:∀ i j,i < lena -> j < 3 -> W.cell? ⟨ba,offa + (i * 3 + j),none⟩ = some (f i j)) (hcb:∀ i j,i < lenb -> j < 3 -> W.cell? ⟨bb,offb + (i * 3 + j),none⟩ = some (g i j)) (h0:J [] W) :
  CallsIn F n Try.prog 82 #[.func (.yield l) #[] #[],.pointer (some ⟨As,oa,none⟩),.pointer (some ⟨Bs,ob,none⟩)] W fun e W'=>(∃ v,e = .returned v) /\
   ((∃ ys,ys = List.range (m) /\ J ys W') \/ (∃ pre,(∃ k,k <= m /\ pre = List.range k) /\ Jx pre W')):=by
 refine callsIn_of_wp Try.func82 rfl hF ?_ hro
 simp only [Try.ntmps82,List.size_toArray,List.length_cons,List.length_nil,nA,nS,Array.replicate_succ,Array.replicate_zero,List.push_toArray,List.append_toArray,List.nil_append,List.cons_append]
 gi_wp2
 all_goals
  first
   | (have hmin:((lena:Nat):Int) = (m:Int):=by omega
      rw [hmin])
   | (have hmin:((lenb:Nat):Int) = (m:Int):=by omega
      rw [hmin])
  clear hmin
  have hma:m <= lena:=by omega
  have hmb:m <= lenb:=by omega
  gi_loopw [10] (fun i wr=>∃ k:Nat,k <= m /\ i = .int .i64 (k:Int) /\ J (List.range k) wr /\ KpOf w bad W wr)
   (fun i _=>((m:Int) - intOf i).toNat)
  case atStart=>exact ⟨0,by omega,rfl,by simpa using h0,⟨Nat.le_refl _,fun _ _ _ _ _ _ h=>h⟩⟩
  case round =>
   obtain ⟨k,hk,rfl,hJs,hnx⟩:=hrel
   by_cases hkm:k = m
   ·subst hkm
    gi_wp2
    go_end0
    exact ⟨⟨_,rfl⟩,.inl ⟨_,rfl,hJs⟩⟩
   ·have hA2:wr.cell? ⟨As,oa,none⟩ = some (.slice (some ⟨ba,offa,none⟩) lena capa):=kp_cell hnx hAl hAn hAs
    have hB2:wr.cell? ⟨Bs,ob,none⟩ = some (.slice (some ⟨bb,offb,none⟩) lenb capb):=kp_cell hnx hBl hBn hBs
    have hwr:w.heap.size <= wr.heap.size:=Nat.le_trans hwW hnx.1
    have cA:CR wr bad (.sl 3 (rowsOf f lena)) _:=rowsOf_cr h1 hcapa han (by omega) (fun i j hi hj=>kp_cell hnx hal han (hca i j hi hj))
    have cB:CR wr bad (.sl 3 (rowsOf g lenb)) _:=rowsOf_cr h2 hcapb hbn (by omega) (fun i j hi hj=>kp_cell hnx hbl hbn (hcb i j hi hj))
    have ra:=rowsOf_at f (len:=lena) (i:=k) (by omega)
    have rb:=rowsOf_at g (len:=lenb) (i:=k) (by omega)
    generalize rowsOf f lena = RA at cA ra
    generalize rowsOf g lenb = RB at cB rb
    have hbw:(∀ g,bad g -> g < wr.heap.size) /\ GB bad wr.heap.size wr:=⟨fun g hg=>by have:=hbad g hg;omega,fun g l hl=>by cases hl⟩
    have vA:VR wr bad [] hd00 (.iptr [.sl 3 RA]) (.pointer (some ⟨As,oa,none⟩)):=.iptr _ As oa (fun _=>.slice (some ⟨ba,offa,none⟩) lena capa) hAn (by omega) (fun j x hj=>by match j,hj with | 0,_=>exact hA2) (fun j x hj=>by match j,hj with | 0,hj=>cases hj;exact cA)
    have vB:VR wr bad [] hd00 (.iptr [.sl 3 RB]) (.pointer (some ⟨Bs,ob,none⟩)):=.iptr _ Bs ob (fun _=>.slice (some ⟨bb,offb,none⟩) lenb capb) hBn (by omega) (fun j x hj=>by match j,hj with | 0,_=>exact hB2) (fun j x hj=>by match j,hj with | 0,hj=>cases hj;exact cB)
    have hmx:Try.prog.follows .mixedOrders = true:=by kernel_rfl
    gi_wp2
    obtain ⟨_,rfl⟩:=hFw
    refine region_pre' (opn:=[]) (X:=X0 wr bad hbw) (m:=11) (k:=2) (cos:=pre158) (st:=⟨[.one (.c (.val (.func (.yield l) #[] #[]))),.one (.iptr [.sl 3 RA]),.one (.iptr [.sl 3 RB]),.junk,aI k] ++ List.replicate 22 .junk,[]⟩)
     (st1:=⟨[.one (.c (.val (.func (.yield l) #[] #[]))),.one (.iptr [.sl 3 RA]),.one (.iptr [.sl 3 RB]),.junk,aI k,.junk,.junk,.junk,.junk,.junk,.junk,.junk,.junk,.one (.c (.val (.func (.yield l) #[] #[]))),aI k,.one (.c (.sl 3 RA)),aI k,.one (.iptr [.val (f k 0),.val (f k 1),.val (f k 2)]),.agg [.c (.val (f k 0)),.c (.val (f k 1)),.c (.val (f k 2))],.one (.c (.sl 3 RB)),aI k,.one (.iptr [.val (g k 0),.val (g k 1),.val (g k 2)]),.agg [.c (.val (g k 0)),.c (.val (g k 1)),.c (.val (g k 2))],.agg [.c (.val (f k 0)),.c (.val (f k 1)),.c (.val (f k 2)),.c (.val (g k 0)),.c (.val (g k 1)),.c (.val (g k 2))],.junk,.junk,.junk],[]⟩) hmx rfl (by kernel_rfl) (by kernel_rfl) (by kernel_rfl) (by kernel_rfl) G158_put ⟨rfl,fun _ _=>rfl⟩ (rel_closed hbw rfl (.cons (.one _ _ (.c _ _ (.val _ rfl))) (.cons (.one _ _ vA) (.cons (.one _ _ vB) (.cons (.junk _) (.cons (.one _ _ (.c _ _ (.val _ rfl))) (.cons (.junk _) (.cons (.junk _) (.cons (.junk _) (.cons (.junk _) (.cons (.junk _) (.cons (.junk _) (.cons (.junk _) (.cons (.junk _) (.cons (.junk _) (.cons (.junk _) (.cons (.junk _) (.cons (.junk _) (.cons (.junk _) (.cons (.junk _) (.cons (.junk _) (.cons (.junk _) (.cons (.junk _) (.cons (.junk _) (.cons (.junk _) (.cons (.junk _) (.cons (.junk _) (.cons (.junk _) (.nil))))))))))))))))))))))))))))) ?_ ?_
    ·simp [evalOps,cev,cstep,St.ev,putT,iaddrAV,ra,rb,readN,mkAV,aI,AV.int?,AV.cells?,Function.comp]
    ·intro hd' a' w' R hG
     have hgr:=R.grown_none
     have hp:=R.slots
     obtain ⟨tm,df⟩:=a'
     dsimp only at hp
     obtain ⟨g0,gs⟩:=hG
     dsimp only at g0
     obtain ⟨v0,q0,e0,p0,hp⟩:=PW.inv hp
     obtain ⟨v1,q1,e1,p1,hp⟩:=PW.inv hp
     obtain ⟨v2,q2,e2,p2,hp⟩:=PW.inv hp
     obtain ⟨v3,q3,e3,p3,hp⟩:=PW.inv hp
     obtain ⟨v4,q4,e4,p4,hp⟩:=PW.inv hp
     obtain ⟨v5,q5,e5,p5,hp⟩:=PW.inv hp
     obtain ⟨v6,q6,e6,p6,hp⟩:=PW.inv hp
     obtain ⟨v7,q7,e7,p7,hp⟩:=PW.inv hp
     obtain ⟨v8,q8,e8,p8,hp⟩:=PW.inv hp
     obtain ⟨v9,q9,e9,p9,hp⟩:=PW.inv hp
     obtain ⟨v10,q10,e10,p10,hp⟩:=PW.inv hp
     obtain ⟨v11,q11,e11,p11,hp⟩:=PW.inv hp
     obtain ⟨v12,q12,e12,p12,hp⟩:=PW.inv hp
     obtain ⟨v13,q13,e13,p13,hp⟩:=PW.inv hp
     obtain ⟨v14,q14,e14,p14,hp⟩:=PW.inv hp
     obtain ⟨v15,q15,e15,p15,hp⟩:=PW.inv hp
     obtain ⟨v16,q16,e16,p16,hp⟩:=PW.inv hp
     obtain ⟨v17,q17,e17,p17,hp⟩:=PW.inv hp
     obtain ⟨v18,q18,e18,p18,hp⟩:=PW.inv hp
     obtain ⟨v19,q19,e19,p19,hp⟩:=PW.inv hp
     obtain ⟨v20,q20,e20,p20,hp⟩:=PW.inv hp
     obtain ⟨v21,q21,e21,p21,hp⟩:=PW.inv hp
     obtain ⟨v22,q22,e22,p22,hp⟩:=PW.inv hp
     obtain ⟨v23,q23,e23,p23,hp⟩:=PW.inv hp
     obtain ⟨v24,q24,e24,p24,hp⟩:=PW.inv hp
     obtain ⟨v25,q25,e25,p25,hp⟩:=PW.inv hp
     obtain ⟨v26,q26,e26,p26,hp⟩:=PW.inv hp
     have hqq:q26 = []:=List.eq_nil_of_length_eq_zero hp.1.symm
     subst hqq
     subst e26
     subst e25
     subst e24
     subst e23
     subst e22
     subst e21
     subst e20
     subst e19
     subst e18
     subst e17
     subst e16
     subst e15
     subst e14
     subst e13
     subst e12
     subst e11
     subst e10
     subst e9
     subst e8
     subst e7
     subst e6
     subst e5
     subst e4
     subst e3
     subst e2
     subst e1
     have et:=congrArg List.toArray e0
     rw [Array.toArray_toList] at et
     clear e0
     subst et
     subst g0
     simp only [List.getElem?_toArray] at gs
     obtain rfl:=Option.some.inj (gs 0 (by decide))
     obtain rfl:=Option.some.inj (gs 1 (by decide))
     obtain rfl:=Option.some.inj (gs 2 (by decide))
     obtain rfl:=Option.some.inj (gs 3 (by decide))
     obtain rfl:=Option.some.inj (gs 4 (by decide))
     obtain rfl:=Option.some.inj (gs 5 (by decide))
     obtain rfl:=Option.some.inj (gs 6 (by decide))
     obtain rfl:=Option.some.inj (gs 7 (by decide))
     obtain rfl:=Option.some.inj (gs 8 (by decide))
     obtain rfl:=Option.some.inj (gs 9 (by decide))
     obtain rfl:=Option.some.inj (gs 10 (by decide))
     obtain rfl:=Option.some.inj (gs 11 (by decide))
     obtain rfl:=Option.some.inj (gs 12 (by decide))
     obtain rfl:=avr_val p13
     obtain rfl:=avr_val p14
     obtain rfl:=avr_aggv (l:=[f k 0,f k 1,f k 2,g k 0,g k 1,g k 2]) p23
     clear p0 p1 p2 p3 p4 p5 p6 p7 p8 p9 p10 p11 p12 p13 p14 p15 p16 p17 p18 p19 p20 p21 p22 p23 p24 p25 p26
     obtain ⟨fn,tmps,assign,body,hy,hR⟩:=hY _ k w' (hJd _ _ _ hJs hgr) (by rw [List.length_range];omega) (by omega)
     show wpOpsIn _ _ _ _ _ [11,12] _ _
     rw [wpOpsIn_cons]
     refine wpOpIn_plain rfl rfl ⟨fun f _=>trivial,?_⟩
     go_simp
     refine hR.mono ?_
     rintro e W3 ⟨b,rfl,hbt,hbf⟩
     show wpOpsIn _ _ _ _ _ [12] _ _
     rw [wpOpsIn_cons]
     refine wpOpIn_plain rfl rfl ⟨fun f _=>trivial,?_⟩
     go_simp
     show Exit.then _ _ .normal _ _
     cases b
     ·gi_wp2
      refine bodyPost_ret (results_none rfl _ _ _) rfl ?_
      exact ⟨⟨_,rfl⟩,.inr ⟨_,⟨k + 1,by omega,List.range_succ.symm⟩,hbf (by simp)⟩⟩
     ·obtain ⟨hJ3,hk3⟩:=hbt rfl
      gi_wp2
      go_roundw
      case rel=>exact ⟨k + 1,by omega,by simp,by rw [List.range_succ];exact hJ3,⟨Nat.le_trans (Nat.le_trans hnx.1 hgr.size) hk3.1,fun g hg hb cs t o h=>hk3.2 g hg hb cs t o ((hgr.block g (by omega) (by simp)).trans (hnx.2 g hg hb cs t o h))⟩⟩
      case measure=>simp [intOf];omega
set_option maxRecDepth 100000 in
set_option maxHeartbeats 2000000 in
theorem pairs1_nil_in (F:Fence) (hF:F.fn 82) (hro:F.round = none) (n:Nat) (l As oa Bs ob:Nat) (pa pb:Option Addr) (lena capa lenb capb:Nat) (hz:lena = 0 \/ lenb = 0) (J:List Nat -> World -> Prop) (W:World)
  (hAs:W.cell? ⟨As,oa,none⟩ = some (.slice pa lena capa)) (hBs:W.cell? ⟨Bs,ob,none⟩ = some (.slice pb lenb capb)) (h0:J [] W) :
  CallsIn F n Try.prog 82 #[.func (.yield l) #[] #[],.pointer (some ⟨As,oa,none⟩),.pointer (some ⟨Bs,ob,none⟩)] W fun e W'=>(∃ v,e = .returned v) /\ J [] W':=by
 refine callsIn_of_wp Try.func82 rfl hF ?_ hro
 simp only [Try.ntmps82,List.size_toArray,List.length_cons,List.length_nil,nA,nS,Array.replicate_succ,Array.replicate_zero,List.push_toArray,List.append_toArray,List.nil_append,List.cons_append]
 gi_wp2
 all_goals
  gi_loopw [10] (fun i wr=>i = .int .i64 0 /\ J [] wr) (fun _ _=>0)
  case atStart=>exact ⟨rfl,h0⟩
  case round =>
   obtain ⟨rfl,hJs⟩:=hrel
   have h00:¬ ((0:Int) < lena) \/ ¬ ((0:Int) < lenb):=by omega
   gi_wp2
   all_goals first
    | (exfalso;omega)
    | skip
   go_end0
   exact ⟨⟨_,rfl⟩,hJs⟩
end Go.Proofs.Ytncgbjhojbnecaa
namespace Go.Proofs.Ytncgbjhojbnecaa
open Go Go.Am Go.Proofs Go.RowKit Go.Shelf Go.Off
open Nat renaming reduceAdd -> nA,reduceSub -> nS,reduceMul -> nM,reduceBEq -> nB
open Int renaming reduceToNat -> iT,reduceAdd -> iA,reduceSub -> iS,reduceMul -> iM,reduceNeg -> iN
theorem fR_len (r:RR):(fR r).length = 3:=rfl
theorem dflt_cr {w:World} {bad:Nat -> Prop} {j:Nat} {c:CV} (h:(fR zR)[j]? = some c):CR w bad c (if j = 0 then .bool false else .slice none 0 0):=by
 match j,h with
 | 0,h=>cases h;exact .val _ rfl
 | 1,h=>cases h;exact .val _ rfl
 | 2,h=>cases h;exact .val _ rfl
theorem vr_view {w:World} {bad:Nat -> Prop} {a:VV} {s:Value} (h:CR w bad (vr a) s):∃ (p:Option Addr) (cap:Nat) (f:Nat -> Nat -> Value),s = .slice p (osl a).length cap /\ (osl a).length <= cap /\ (∀ i j,(f i j).oneCell' = true) /\
  (∀ i j c,(fR (rAt a i))[j]? = some c -> CR w bad c (f i j)) /\ ((osl a).length ≠ 0 -> ∃ g off,p = some ⟨g,off,none⟩ /\ ¬ bad g /\ g < w.heap.size /\ ∀ i j,i < (osl a).length -> j < 3 -> w.cell? ⟨g,off + (i * 3 + j),none⟩ = some (f i j)):=by
 cases a with
 | none =>
  cases h with
  | val _ _ =>
   refine ⟨none,0,fun i j=>if j = 0 then .bool false else .slice none 0 0,rfl,Nat.le_refl _,fun i j=>by dsimp only;split <;> rfl,fun i j c hc=>?_,fun h0=>absurd rfl h0⟩
   have:rAt none i = zR:=rfl
   rw [this] at hc
   exact dflt_cr hc
 | some l =>
  change CR w bad (.sl 3 (l.map fR)) s at h
  generalize hlm:l.map fR = lm at h
  cases h with
  | emp _ ad =>
   obtain rfl:l = []:=by simpa using hlm
   refine ⟨some ad,0,fun i j=>if j = 0 then .bool false else .slice none 0 0,rfl,Nat.le_refl _,fun i j=>by dsimp only;split <;> rfl,fun i j c hc=>?_,fun h0=>absurd rfl h0⟩
   have:rAt (some []) i = zR:=rfl
   rw [this] at hc
   exact dflt_cr hc
  | sl _ _ g off cap f hcap hbad hlt hrow hc hv =>
   subst hlm
   rw [List.length_map] at hcap hc
   have hf:∀ i j c,i < l.length -> (fR (rAt (some l) i))[j]? = some c -> CR w bad c (f i j):=fun i j c hi hcj=>by
    refine hv i j (fR (rAt (some l) i)) c ?_ hcj
    have:rAt (some l) i = l[i]:=by simp [rAt,osl_some,hi]
    rw [this,List.getElem?_map,List.getElem?_eq_getElem hi]
    rfl
   refine ⟨some ⟨g,off,none⟩,cap,fun i j=>if i < l.length /\ j < 3 then f i j else if j = 0 then .bool false else .slice none 0 0,by rw [List.length_map];rfl,hcap,fun i j=>?_,fun i j c hcj=>?_,fun _=>⟨g,off,rfl,hbad,hlt,fun i j hi hj=>?_⟩⟩
   ·dsimp only
    split
    ·rename_i hij
     have hlt3:j < (fR (rAt (some l) i)).length:=hij.2
     exact (hf i j _ hij.1 (List.getElem?_eq_getElem hlt3)).oneCell
    ·split <;> rfl
   ·dsimp only
    have hj:j < 3:=by have:=(List.getElem?_eq_some_iff.1 hcj).1;rwa [fR_len] at this
    by_cases hi:i < l.length
    ·rw [if_pos ⟨hi,hj⟩];exact hf i j c hi hcj
    ·rw [if_neg (fun h=>hi h.1)]
     have:rAt (some l) i = zR:=by simp only [rAt,osl_some,List.getD_eq_getElem?_getD];rw [List.getElem?_eq_none_iff.2 (by omega)];rfl
     rw [this] at hcj
     exact dflt_cr hcj
   ·dsimp only
    rw [if_pos ⟨hi,hj⟩]
    exact hc i j hi hj
abbrev vmin (a b:VV):Nat:=min (osl a).length (osl b).length
abbrev pairAV (a b:VV) (k:Nat):List AV:=[aI (k:Int),.agg ((fR (rAt a k) ++ fR (rAt b k)).map .c)]
theorem pairs_iter (a b:VV) (hla:(osl a).length <= 1000000000000) (hlb:(osl b).length <= 1000000000000) :
  IterC Try.prog 82 [.iptr [vr a],.iptr [vr b]] (pairAV a b) 2 (fun xs=>xs = List.range (vmin a b)) (fun pre=>∃ k,k <= vmin a b /\ pre = List.range k) (vmin a b):=by
 refine ⟨fun a w=>Try.call82 a w,fun k=>rfl,fun w bad vs hbad hvs=>?_⟩
 obtain ⟨v0,q0,rfl,hv0,hvs⟩:=PW.inv hvs
 obtain ⟨v1,q1,rfl,hv1,hvs⟩:=PW.inv hvs
 obtain rfl:q1 = []:=List.eq_nil_of_length_eq_zero hvs.1.symm
 cases hv0 with
 | iptr _ As oa fa hAn hAl hca hva =>
 cases hv1 with
 | iptr _ Bs ob fb hBn hBl hcb hvb =>
 have cellA:=hca 0 (vr a) rfl
 have crA:=hva 0 (vr a) rfl
 have cellB:=hcb 0 (vr b) rfl
 have crB:=hvb 0 (vr b) rfl
 generalize fa 0 = sa at cellA crA
 generalize fb 0 = sb at cellB crB
 clear hca hva hcb hvb
 obtain ⟨pa,capa,f,rfl,hcapa,h1,hf,hA⟩:=vr_view crA
 obtain ⟨pb,capb,g,rfl,hcapb,h2,hg,hB⟩:=vr_view crB
 refine ⟨fun k=>[.int .i64 (k:Int),.agg #[f k 0,f k 1,f k 2,g k 0,g k 1,g k 2]],fun k=>.cons (.one _ _ (.c _ _ (.val _ rfl))) (.cons ?_ .nil),fun n=>?_⟩
 ·refine .agg _ [f k 0,f k 1,f k 2,g k 0,g k 1,g k 2] rfl (fun i c v hc hv=>?_)
  match i,hc,hv with
  | 0,hc,hv=>cases hc;cases hv;exact .c _ _ (hf k 0 _ rfl)
  | 1,hc,hv=>cases hc;cases hv;exact .c _ _ (hf k 1 _ rfl)
  | 2,hc,hv=>cases hc;cases hv;exact .c _ _ (hf k 2 _ rfl)
  | 3,hc,hv=>cases hc;cases hv;exact .c _ _ (hg k 0 _ rfl)
  | 4,hc,hv=>cases hc;cases hv;exact .c _ _ (hg k 1 _ rfl)
  | 5,hc,hv=>cases hc;cases hv;exact .c _ _ (hg k 2 _ rfl)
 ·intro ll J Jx W hW hJ hJx hY h0
  have hAW:W.cell? ⟨As,oa,none⟩ = _:=(hW.cell (p:=⟨As,oa,none⟩) hAl).trans cellA
  have hBW:W.cell? ⟨Bs,ob,none⟩ = _:=(hW.cell (p:=⟨Bs,ob,none⟩) hBl).trans cellB
  by_cases hz:(osl a).length = 0 \/ (osl b).length = 0
  ·refine (pairs1_nil_in (Wd none) trivial rfl n ll As oa Bs ob pa pb _ capa _ capb hz J W hAW hBW h0).mono ?_
   rintro e W' ⟨he,hj⟩
   have hm0:vmin a b = 0:=by
    show min (osl a).length (osl b).length = 0
    omega
   exact ⟨he,.inl ⟨[],(by rw [hm0];rfl),hj⟩⟩
  ·obtain ⟨ga,offa,rfl,hgan,hgal,hcA⟩:=hA (by omega)
   obtain ⟨gb,offb,rfl,hgbn,hgbl,hcB⟩:=hB (by omega)
   refine callsIn_n (pairs1_in (Wd none) trivial rfl ⟨(),rfl⟩ (n + 1) (by omega) ll As oa Bs ob ga offa _ capa gb offb _ capb (vmin a b) rfl w bad f g h1 h2 hla hlb hAl hAn hBl hBn hgal hgan hgbl hgbn J Jx W (fun pre x W1 hj hl hx=>?_) (fun pre A B hj hgr=>hJ pre A B none hj hgr (by simp)) hbad.1 hW.size hcapa hcapb hAW hBW
    (fun i j hi hj=>(hW.cell (p:=⟨ga,offa + (i * 3 + j),none⟩) hgal).trans (hcA i j hi hj)) (fun i j hi hj=>(hW.cell (p:=⟨gb,offb + (i * 3 + j),none⟩) hgbl).trans (hcB i j hi hj)) h0) n
   exact yieldAt_alt (hY pre x W1 hj hl) _
abbrev c52:CC:=(.seq (.reg [⟨some 2,none,.box 23 (.tmp 0)⟩,⟨some 3,none,.box 23 (.tmp 1)⟩,⟨some 4,none,.mv (.const .nilFunc)⟩]) (.seq (.reg [⟨some 5,none,.mkfn 82 [(.tmp 2),(.tmp 3)]⟩,⟨some 4,none,.mv (.tmp 5)⟩]) .ret))
theorem cc52:ccode Try.prog [] (Try.f52.body.getD .skip) = some c52:=by kernel_rfl
theorem body52:Try.f52.body = some (Try.f52.body.getD .skip):=rfl
theorem pairs_C (x y:CV):PureC Try.prog 52 [.one (.c x),.one (.c y)] (.ret (.one (.fn 82 [.iptr [x],.iptr [y]]))):=by
 refine pureC_of (rs:=[(RV.tmp 4)]) Try.func52 (fun a w=>Try.call52 a w) body52 cc52 (by kernel_rfl) ?_
 rw [Try.ntmps52]
 simp only [frs,nA,nS]
 repeat (first | (with_reducible first | refine Way.imp ?_ | refine blk_o rfl ?_) | ((with_reducible refine WayR.imp (fun K hK=>?_));simp (disch:=first | omega | (simp only [dls];omega)) only [std,reduceIte,reduceCtorEq,iT,nA,nS,nM,iA,iS,iM,iN,fU];subst hK))
 exact ⟨_,rfl,rfl⟩
def dotTo (a b:VV) (k:Nat):Rat:=(List.range k).foldl (fun s i=>s + (rAt a i).val * (rAt b i).val) 0
def dotV (a b:VV):Rat:=dotTo a b (vmin a b)
theorem dotTo_succ (a b:VV) (k:Nat):dotTo a b (k + 1) = dotTo a b k + (rAt a k).val * (rAt b k).val:=by
 unfold dotTo;rw [List.range_succ,List.foldl_append];rfl
abbrev c18_k1:CC:=(.seq (.reg [⟨some 31,none,.load 3 true (.tmp 5)⟩,⟨none,none,.store 3 (.tmp 4) (.tmp 31)⟩]) .ret)
abbrev c18_b1:CC:=(.block 1 (.seq (.reg [⟨some 14,none,.iaddr 3 (some 2) (.tmp 7) (.const (.int .i64 (0)))⟩,⟨some 15,none,.load 3 true (.tmp 14)⟩,⟨some 16,none,.callf (.func 23) [(.tmp 15)]⟩,⟨some 17,none,.bin .neq (.tmp 16) (.const (.int .i64 (0)))⟩,⟨some 18,none,.mv (.tmp 17)⟩,⟨some 19,(some (18,true)),.iaddr 3 (some 2) (.tmp 7) (.const (.int .i64 (1)))⟩,⟨some 20,(some (18,true)),.load 3 true (.tmp 19)⟩,⟨some 21,(some (18,true)),.callf (.func 23) [(.tmp 20)]⟩,⟨some 22,(some (18,true)),.bin .neq (.tmp 21) (.const (.int .i64 (0)))⟩,⟨some 23,none,.pick (.tmp 18) (.tmp 22) (.const (.bool false))⟩]) (.cond (.tmp 23) (.reg [⟨some 24,none,.load 3 true (.tmp 5)⟩,⟨some 25,none,.iaddr 3 (some 2) (.tmp 7) (.const (.int .i64 (0)))⟩,⟨some 26,none,.load 3 true (.tmp 25)⟩,⟨some 27,none,.iaddr 3 (some 2) (.tmp 7) (.const (.int .i64 (1)))⟩,⟨some 28,none,.load 3 true (.tmp 27)⟩,⟨some 29,none,.callf (.func 19) [(.tmp 26),(.tmp 28)]⟩,⟨some 30,none,.callf (.func 25) [(.tmp 24),(.tmp 29)]⟩,⟨none,none,.store 3 (.tmp 5) (.tmp 30)⟩]) .skip)))
abbrev c18:CC:=(.seq (.reg [⟨some 4,none,.new 41 [(.bool false),(.slice none 0 0),(.slice none 0 0)]⟩]) (.seq (.reg [⟨some 8,none,.callf (.func 15) [(.const (.int .i64 (0)))]⟩,⟨some 5,none,.new 41 [(.bool false),(.slice none 0 0),(.slice none 0 0)]⟩,⟨none,none,.store 3 (.tmp 5) (.tmp 8)⟩]) (.seq (.seq (.reg [⟨some 9,none,.mv (.tmp 0)⟩,⟨some 10,none,.mv (.tmp 1)⟩,⟨some 11,none,.callf (.func 52) [(.tmp 9),(.tmp 10)]⟩]) (.block 0 (.rfb (.tmp 11) [12,13] 7 93 6 13 c18_b1))) c18_k1)))
theorem cc18:ccode Try.prog [] (Try.f18.body.getD .skip) = some c18:=by kernel_rfl
theorem body18:Try.f18.body = some (Try.f18.body.getD .skip):=rfl
theorem dot_W (a b:VV) (n L K:Nat) (ha:FitsV a n L) (hb:FitsV b n K) (hn:n <= 1000) (hL:1 <= L) (hK:1 <= K) (hL2:L <= 8000000) (hK2:K <= 8000000) (hLK:L + K <= 8000000) (hN:n * (L + K + 1) <= 8990000):PureC Try.prog 18 [aV a,aV b] (.ret (aR (rawQ (dotV a b)))):=by
 have hint:=rint_C 0 (by omega) (by omega)
 rw [show ((0:Int):Rat) = 0 from rfl] at hint
 have hp:=pairs_C (vr a) (vr b)
 have ha1:=ha.1
 have hb1:=hb.1
 refine pureC_of (rs:=[(RV.cell 4 3 true)]) Try.func18 (fun a w=>Try.call18 a w) body18 cc18 (by kernel_rfl) ?_
 rw [Try.ntmps18]
 simp only [frs,nA,nS]
 repeat (first | (with_reducible first | refine Way.imp ?_ | refine blk_o rfl ?_) | ((with_reducible refine WayR.imp (fun K hK=>?_));simp (disch:=first | omega | (simp only [dls];omega)) only [std,reduceIte,reduceCtorEq,iT,nA,nS,nM,iA,iS,iM,iN,fU];subst hK) | refine zcA (hint) rfl rfl rfl ?_ | refine zcA (hp) rfl rfl rfl ?_)
 refine awp_foldb (pairs_iter a b (by omega) (by omega)) rfl (by simp [closedCell]) (by simp) (fun k=>fR (rAt a k) ++ fR (rAt b k)) (fun k=>rfl) (fun k=>rfl)
  (fun (s:Rat)=>[⟨0,41,3,[[.c (.val (.bool false)),.c (.val (.slice none 0 0)),.c (.val (.slice none 0 0))]],true,true⟩,⟨0,41,3,[[.c (.val (.bool (rawQ s).minus)),.c (nr (rawQ s).size),.c (nr (rawQ s).den)]],true,true⟩])
  (fun s k=>s + (rAt a k).val * (rAt b k).val) (fun i s=>FitsQ s (i * (L + K + 1) + 1)) 0 rfl (by rw [Nat.zero_mul];exact fitsQ_zero _ (by omega)) (by simp) ?_ ?_
 ·intro i s k hi hs
  have fa:=ha.at k
  have fb:=hb.at k
  have hsa:=rsign_C (rAt a k) (fa.mono (by omega))
  have hsb:=rsign_C (rAt b k) (fb.mono (by omega))
  have hiL:i * (L + K + 1) <= n * (L + K + 1):=Nat.mul_le_mul (by have:vmin a b <= n:=by (show min _ _ <= n);omega
                                                                  omega) (Nat.le_refl _)
  have hq:=fitsQ_mul fa fb hL hK
  have hm:=rmul_C (rAt a k) (rAt b k) (fa.mono (by omega)) (fb.mono (by omega))
  have had:=radd_C (rawQ s) (rawQ ((rAt a k).val * (rAt b k).val)) (fits_rawQ (hs.mono (by omega))) (fits_rawQ (hq.mono (by omega)))
  rw [rawQ_val,rawQ_val] at had
  have hnx:FitsQ (s + (rAt a k).val * (rAt b k).val) ((i + 1) * (L + K + 1) + 1):=(hs.add1 hq).mono (by rw [Nat.add_mul];omega)
  have za:=top_zero (rAt a k)
  have zb:=top_zero (rAt b k)
  have ga:=(sgn_zero_iff (rAt a k).top).trans za
  have gb:=(sgn_zero_iff (rAt b k).top).trans zb
  simp only [mvT,setps,rnd,nA]
  by_cases h0:(rAt a k).val = 0
  ·have hs0:s + (rAt a k).val * (rAt b k).val = s:=by rw [h0,Rat.zero_mul,Rat.add_zero]
   have hz:=ga.2 h0
   rw [hz] at hsa
   repeat (first | (with_reducible first | refine Way.imp ?_ | refine blk_o rfl ?_) | ((with_reducible refine WayR.imp (fun K hK=>?_));simp (disch:=first | omega | (simp only [dls];omega)) only [std,reduceIte,reduceCtorEq,iT,nA,nS,nM,iA,iS,iM,iN,fU,fR];subst hK) | refine zcA (hsa) rfl rfl rfl ?_)
   refine ⟨_,⟨rfl,?hI1⟩,_,Fgt.head (Nat.le_refl _) [] rfl ?hH1⟩
   case hH1=>first | (simp (disch:=omega) only [hds,liveT,cleanAV,cleanCell,clean1,cleanBlk,reduceIte,iS,iA,iN,hs0];done) | rfl
   exact hnx
  ·have hz:sgn (rAt a k).top ≠ 0:=fun e=>h0 (ga.1 e)
   generalize sgn (rAt a k).top = ta at hsa hz
   by_cases h1:(rAt b k).val = 0
   ·have hs0:s + (rAt a k).val * (rAt b k).val = s:=by rw [h1,Rat.mul_zero,Rat.add_zero]
    have hz:=gb.2 h1
    rw [hz] at hsb
    repeat (first | (with_reducible first | refine Way.imp ?_ | refine blk_o rfl ?_) | ((with_reducible refine WayR.imp (fun K hK=>?_));simp (disch:=first | omega | (simp only [dls];omega)) only [std,reduceIte,reduceCtorEq,iT,nA,nS,nM,iA,iS,iM,iN,fU,fR];subst hK) | refine zcA (hsa) rfl rfl rfl ?_ | (apply call_any_g (hsb) rfl;(case hg=>simp (disch:=first | omega | (simp only [dls];omega)) only [std,reduceIte,reduceCtorEq,iT,nA,nS,nM,iA,iS,iM,iN,fU,fR]);(case hcl=>(simp only [evs,St.ev,constAV,evl];(repeat (first | exact closeAVs_nil | (apply closeAVs_cons;(first | (refine close_own3 rfl (by decide)) | (refine close_ownO rfl (by decide) ?_;assumption) | rfl))));done));(case hu=>rfl)))
    refine ⟨_,⟨rfl,?hI2⟩,_,Fgt.head (Nat.le_refl _) [] rfl ?hH2⟩
    case hH2=>first | (simp (disch:=omega) only [hds,liveT,cleanAV,cleanCell,clean1,cleanBlk,reduceIte,iS,iA,iN,hs0];done) | rfl
    exact hnx
   ·have hz:sgn (rAt b k).top ≠ 0:=fun e=>h1 (gb.1 e)
    generalize sgn (rAt b k).top = tb at hsb hz
    repeat (first | (with_reducible first | refine Way.imp ?_ | refine blk_o rfl ?_) | ((with_reducible refine WayR.imp (fun K hK=>?_));simp (disch:=first | omega | (simp only [dls];omega)) only [std,reduceIte,reduceCtorEq,iT,nA,nS,nM,iA,iS,iM,iN,fU,fR];subst hK) | refine zcA (hsa) rfl rfl rfl ?_ | (apply call_any_g (hsb) rfl;(case hg=>simp (disch:=first | omega | (simp only [dls];omega)) only [std,reduceIte,reduceCtorEq,iT,nA,nS,nM,iA,iS,iM,iN,fU,fR]);(case hcl=>(simp only [evs,St.ev,constAV,evl];(repeat (first | exact closeAVs_nil | (apply closeAVs_cons;(first | (refine close_own3 rfl (by decide)) | (refine close_ownO rfl (by decide) ?_;assumption) | rfl))));done));(case hu=>rfl)) | refine zcA (hm) rfl rfl rfl ?_ | refine zcA (had) rfl rfl rfl ?_)
    refine ⟨_,⟨rfl,?hI3⟩,_,Fgt.head (Nat.le_refl _) [] rfl ?hH3⟩
    case hH3=>first | (simp (disch:=omega) only [hds,liveT,cleanAV,cleanCell,clean1,cleanBlk,reduceIte,iS,iA,iN];done) | rfl
    exact hnx
 ·intro _
  repeat (first | (with_reducible first | refine Way.imp ?_ | refine blk_o rfl ?_) | ((with_reducible refine WayR.imp (fun K hK=>?_));simp (disch:=first | omega | (simp only [dls];omega)) only [std,reduceIte,reduceCtorEq,iT,nA,nS,nM,iA,iS,iM,iN,fU];subst hK))
  exact ⟨_,rfl,rfl⟩
theorem dot_C (a b:VV) (n L:Nat) (ha:FitsV a n L) (hb:FitsV b n L) (hn:n <= 1000) (hL:1 <= L) (hL2:L <= 2000):PureC Try.prog 18 [aV a,aV b] (.ret (aR (rawQ (dotV a b)))) :=
 dot_W a b n L L ha hb hn hL hL (by omega) (by omega) (by omega) (Nat.le_trans (Nat.mul_le_mul hn (show L + L + 1 <= 4001 by omega)) (by decide))
abbrev c100:CC:=(.seq (.reg [⟨some 4,none,.new 41 [(.bool false),(.slice none 0 0),(.slice none 0 0)]⟩]) (.seq (.seq (.reg [⟨some 5,none,.mv (.tmp 1)⟩,⟨some 6,none,.bin .lss (.tmp 5) (.const (.int .i64 (0)))⟩,⟨some 7,none,.mv (.tmp 6)⟩,⟨some 8,(some (7,false)),.mv (.tmp 1)⟩,⟨some 9,(some (7,false)),.mv (.tmp 0)⟩,⟨some 10,(some (7,false)),.len false (.tmp 9)⟩,⟨some 11,(some (7,false)),.bin .geq (.tmp 8) (.tmp 10)⟩,⟨some 12,none,.pick (.tmp 7) (.const (.bool true)) (.tmp 11)⟩]) (.cond (.tmp 12) (.seq (.reg [⟨some 13,none,.callf (.func 15) [(.const (.int .i64 (0)))]⟩,⟨none,none,.store 3 (.tmp 4) (.tmp 13)⟩]) .ret) .skip)) (.seq (.reg [⟨some 14,none,.mv (.tmp 0)⟩,⟨some 15,none,.mv (.tmp 1)⟩,⟨some 16,none,.iaddr 3 none (.tmp 14) (.tmp 15)⟩,⟨some 17,none,.load 3 true (.tmp 16)⟩,⟨none,none,.store 3 (.tmp 4) (.tmp 17)⟩]) .ret)))
theorem cc100:ccode Try.prog [] (Try.f100.body.getD .skip) = some c100:=by kernel_rfl
theorem body100:Try.f100.body = some (Try.f100.body.getD .skip):=rfl
theorem vat_C (a:VV) (i:Nat) (hl:(osl a).length <= 1000000000000) (hi:i <= 1000000000000):∃ r:RR,r.val = qAt a i /\ (∀ L,1 <= L -> (∀ r ∈ osl a,Fits r L) -> Fits r L) /\ PureC Try.prog 100 [aV a,aI (i:Int)] (.ret (aR r)):=by
 have hint:=rint_C 0 (by omega) (by omega)
 rw [show ((0:Int):Rat) = 0 from rfl] at hint
 by_cases h:i < (osl a).length
 ·refine ⟨rAt a i,rfl,fun L _ hf=>hf _ (by rw [rAt_in h];exact List.getElem_mem h),?_⟩
  rw [rAt_in h]
  refine pureC_of (rs:=[(RV.cell 4 3 true)]) Try.func100 (fun a w=>Try.call100 a w) body100 cc100 (by kernel_rfl) ?_
  rw [Try.ntmps100]
  simp only [frs,nA,nS]
  repeat (first | (with_reducible first | refine Way.imp ?_ | refine blk_o rfl ?_) | ((with_reducible refine WayR.imp (fun K hK=>?_));simp (disch:=first | omega | (simp only [dls];omega)) only [std,reduceIte,reduceCtorEq,iT,nA,nS,nM,iA,iS,iM,iN,fU,fR];subst hK))
  exact ⟨_,rfl,rfl⟩
 ·refine ⟨rawQ 0,by rw [rawQ_val];unfold qAt;rw [rAt_out (by omega)];exact zR_val.symm,fun L hL _=>fits_rawQ (fitsQ_zero L hL),?_⟩
  refine pureC_of (rs:=[(RV.cell 4 3 true)]) Try.func100 (fun a w=>Try.call100 a w) body100 cc100 (by kernel_rfl) ?_
  rw [Try.ntmps100]
  simp only [frs,nA,nS]
  repeat (first | (with_reducible first | refine Way.imp ?_ | refine blk_o rfl ?_) | ((with_reducible refine WayR.imp (fun K hK=>?_));simp (disch:=first | omega | (simp only [dls];omega)) only [std,reduceIte,reduceCtorEq,iT,nA,nS,nM,iA,iS,iM,iN,fU];subst hK) | refine zcA (hint) rfl rfl rfl ?_)
  exact ⟨_,rfl,rfl⟩
def addQ (a b:VV):List Rat:=(List.range (max (osl a).length (osl b).length)).map fun i=>qAt a i + qAt b i
abbrev c90_k1:CC:=(.seq (.reg [⟨some 26,none,.mv (.tmp 5)⟩,⟨some 4,none,.mv (.tmp 26)⟩]) .ret)
abbrev c90_b1:CC:=(.seq (.reg [⟨some 13,none,.bin .lss (.tmp 12) (.tmp 11)⟩]) (.seq (.cond (.tmp 13) .skip (.exit 0)) (.seq (.block 1 (.seq (.reg [⟨some 14,none,.mv (.tmp 12)⟩,⟨some 6,none,.mv (.tmp 14)⟩]) (.reg [⟨some 15,none,.mv (.tmp 5)⟩,⟨some 16,none,.mv (.tmp 0)⟩,⟨some 17,none,.mv (.tmp 6)⟩,⟨some 18,none,.callf (.func 100) [(.tmp 16),(.tmp 17)]⟩,⟨some 19,none,.mv (.tmp 1)⟩,⟨some 20,none,.mv (.tmp 6)⟩,⟨some 21,none,.callf (.func 100) [(.tmp 19),(.tmp 20)]⟩,⟨some 22,none,.callf (.func 25) [(.tmp 18),(.tmp 21)]⟩,⟨some 23,none,.mkrow 41 3 [(.tmp 22)]⟩,⟨some 24,none,.append 41 3 56 (.tmp 15) (.tmp 23)⟩,⟨some 5,none,.mv (.tmp 24)⟩]))) (.reg [⟨some 25,none,.bin .add (.tmp 12) (.const (.int .i64 (1)))⟩,⟨some 12,none,.mv (.tmp 25)⟩]))))
abbrev c90:CC:=(.seq (.reg [⟨some 4,none,.mv (.const (.slice none 0 0))⟩]) (.seq (.reg [⟨some 5,none,.mv (.const (.slice none 0 0))⟩]) (.seq (.seq (.reg [⟨some 7,none,.mv (.tmp 0)⟩,⟨some 8,none,.len false (.tmp 7)⟩,⟨some 9,none,.mv (.tmp 1)⟩,⟨some 10,none,.len false (.tmp 9)⟩,⟨some 11,none,.mm true (.tmp 8) (.tmp 10)⟩,⟨some 12,none,.mv (.const (.int .i64 (0)))⟩]) (.block 0 (.loop c90_b1))) c90_k1)))
theorem cc90:ccode Try.prog [] (Try.f90.body.getD .skip) = some c90:=by kernel_rfl
theorem body90:Try.f90.body = some (Try.f90.body.getD .skip):=rfl
theorem vadd_C (a b:VV) (n L:Nat) (ha:FitsV a n L) (hb:FitsV b n L) (hn:n <= 1000000) (hL:1 <= L) (hL2:L <= 4000000) :
  PureC Try.prog 90 [aV a,aV b] (.fresh 41 3 ((addQ a b).map fun q=>fR (rawQ q)) (!(addQ a b).isEmpty)):=by
 have ha1:=ha.1
 have hb1:=hb.1
 have hmx:max ((osl a).length:Int) ((osl b).length:Int) = ((max (osl a).length (osl b).length:Nat):Int):=by omega
 have hmn:max (osl a).length (osl b).length <= n:=by omega
 unfold addQ
 generalize max (osl a).length (osl b).length = m at *
 refine pureC_of (rs:=[(RV.tmp 4)]) Try.func90 (fun a w=>Try.call90 a w) body90 cc90 (by kernel_rfl) ?_
 rw [Try.ntmps90]
 simp only [frs,nA,nS]
 repeat (first | (with_reducible first | refine Way.imp ?_ | refine blk_o rfl ?_) | ((with_reducible refine WayR.imp (fun K hK=>?_));simp (disch:=first | omega | (simp only [dls];omega)) only [std,reduceIte,reduceCtorEq,iT,nA,nS,nM,iA,iS,iM,iN,fU,hmx];subst hK))
 refine AWp.fgt ?_ (Fgt.openNil (i:=5) rfl 41 3)
 simp only [List.set_cons_succ,List.set_cons_zero,List.length_nil,List.length_cons,List.nil_append,List.cons_append,nA]
 refine awp_loop (fun (zz:Nat × (List RR) × Nat × Bool)=>⟨(aV a :: aV b :: .junk :: .junk :: .one (.c (.val (.slice none 0 0))) :: .one (.own 0 zz.2.2.1) :: .junk :: .junk :: .junk :: .junk :: .junk :: aI m :: aI zz.1 :: .junk :: .junk :: .junk :: .junk :: .junk :: .junk :: .junk :: .junk :: .junk :: .junk :: .junk :: .junk :: .junk :: .junk :: []),[⟨zz.2.2.1,41,3,encB fR zz.2.1,true,zz.2.2.2⟩]⟩) (fun (zz:Nat × (List RR) × Nat × Bool)=>zz.1 <= m /\ zz.2.1 = (List.range zz.1).map (fun k=>rawQ (qAt a k + qAt b k)) /\ zz.2.2.2 = !zz.2.1.isEmpty) (fun (zz:Nat × (List RR) × Nat × Bool)=>m - zz.1) (0,[],0,false) ?hI1 (Fgt.head (Nat.zero_le 1) [true,true,false,false,true,true,false,false,false,false,false,true,true] ?hT1 ?hH1) ?hB1
 case hT1=>first | (simp (disch:=omega) only [hds,liveT,cleanAV,cleanCell,clean1,cleanBlk,reduceIte,iS,iA,iN,encB_nil];done) | rfl
 case hH1=>first | (simp (disch:=omega) only [hds,liveT,cleanAV,cleanCell,clean1,cleanBlk,reduceIte,iS,iA,iN,encB_nil];done) | rfl
 ·dsimp only;exact ⟨by omega,rfl,rfl⟩
 rintro ⟨i,out,v,nn⟩ ⟨hi,ho,hnn⟩
 dsimp only at hi ho hnn
 by_cases him:i = m
 ·repeat (first | (with_reducible first | refine Way.imp ?_ | refine blk_o rfl ?_) | ((with_reducible refine WayR.imp (fun K hK=>?_));simp (disch:=first | omega | (simp only [dls];omega)) only [std,reduceIte,reduceCtorEq,iT,nA,nS,nM,iA,iS,iM,iN,fU];subst hK))
  refine ⟨_,rfl,?_⟩
  rw [him] at ho
  have he:(!((List.range m).map fun i=>qAt a i + qAt b i).isEmpty) = nn:=by rw [hnn,ho];cases m <;> simp
  rw [he,List.map_map,show ((fun q=>fR (rawQ q)) ∘ fun i=>qAt a i + qAt b i) = fR ∘ (fun i=>rawQ (qAt a i + qAt b i)) from rfl,<- List.map_map,<- ho]
  exact Ends.fresh_enc rfl
 ·obtain ⟨ra,hra,hfa,hca⟩:=vat_C a i (by omega) (by omega)
  obtain ⟨rb,hrb,hfb,hcb⟩:=vat_C b i (by omega) (by omega)
  have had:=radd_C ra rb ((hfa L hL ha.2).mono (by omega)) ((hfb L hL hb.2).mono (by omega))
  rw [hra,hrb] at had
  have hol:out.length = i:=by rw [ho,List.length_map,List.length_range]
  repeat (first | (with_reducible first | refine Way.imp ?_ | refine blk_o rfl ?_) | ((with_reducible refine WayR.imp (fun K hK=>?_));simp (disch:=first | omega | (simp only [dls];omega)) only [std,reduceIte,reduceCtorEq,iT,nA,nS,nM,iA,iS,iM,iN,fU];subst hK) | refine zcA (hca) rfl rfl rfl ?_ | refine zcA (hcb) rfl rfl rfl ?_ | refine zcA (had) rfl rfl rfl ?_)
  refine ⟨(i + 1,out ++ [rawQ (qAt a i + qAt b i)],v + 1,true),?hI2,?hM2,Fgt.head (Nat.zero_le 1) [true,true,false,false,true,true,false,false,false,false,false,true,true] ?hT2 ?hH2⟩
  case hT2=>first | (simp (disch:=omega) only [hds,liveT,cleanAV,cleanCell,clean1,cleanBlk,reduceIte,iS,iA,iN,encB_snoc_row,List.isEmpty_cons,Bool.or_true,Bool.not_false];done) | rfl
  case hH2=>first | (simp (disch:=omega) only [hds,liveT,cleanAV,cleanCell,clean1,cleanBlk,reduceIte,iS,iA,iN,encB_snoc_row,List.isEmpty_cons,Bool.or_true,Bool.not_false];done) | rfl
  ·dsimp only
   refine ⟨by omega,?_,by simp⟩
   rw [ho,List.range_succ,List.map_append]
   rfl
  ·dsimp only;omega
def scaleQ (a:VV) (q:Rat):List Rat:=(osl a).map fun r=>r.val * q
abbrev c16_k1:CC:=(.seq (.reg [⟨some 21,none,.mv (.tmp 5)⟩,⟨some 4,none,.mv (.tmp 21)⟩]) .ret)
abbrev c16_b1:CC:=(.seq (.reg [⟨some 11,none,.bin .lss (.tmp 10) (.tmp 9)⟩]) (.seq (.cond (.tmp 11) .skip (.exit 0)) (.seq (.block 1 (.seq (.reg [⟨some 12,none,.iaddr 3 none (.tmp 8) (.tmp 10)⟩,⟨some 13,none,.load 3 true (.tmp 12)⟩,⟨some 7,none,.new 41 [(.bool false),(.slice none 0 0),(.slice none 0 0)]⟩,⟨none,none,.store 3 (.tmp 7) (.tmp 13)⟩]) (.reg [⟨some 14,none,.mv (.tmp 5)⟩,⟨some 15,none,.load 3 true (.tmp 7)⟩,⟨some 16,none,.load 3 true (.tmp 3)⟩,⟨some 17,none,.callf (.func 19) [(.tmp 15),(.tmp 16)]⟩,⟨some 18,none,.mkrow 41 3 [(.tmp 17)]⟩,⟨some 19,none,.append 41 3 56 (.tmp 14) (.tmp 18)⟩,⟨some 5,none,.mv (.tmp 19)⟩]))) (.reg [⟨some 20,none,.bin .add (.tmp 10) (.const (.int .i64 (1)))⟩,⟨some 10,none,.mv (.tmp 20)⟩]))))
abbrev c16:CC:=(.seq (.reg [⟨some 3,none,.box 41 (.tmp 1)⟩,⟨some 4,none,.mv (.const (.slice none 0 0))⟩]) (.seq (.reg [⟨some 5,none,.mv (.const (.slice none 0 0))⟩]) (.seq (.seq (.reg [⟨some 8,none,.mv (.tmp 0)⟩,⟨some 9,none,.len false (.tmp 8)⟩,⟨some 10,none,.mv (.const (.int .i64 (0)))⟩]) (.block 0 (.loop c16_b1))) c16_k1)))
theorem cc16:ccode Try.prog [] (Try.f16.body.getD .skip) = some c16:=by kernel_rfl
theorem body16:Try.f16.body = some (Try.f16.body.getD .skip):=rfl
theorem vscale_C (a:VV) (by':RR) (n L:Nat) (ha:FitsV a n L) (hb:Fits by' L) (hn:n <= 1000000) (hL:1 <= L) (hL2:L <= 4000000) :
  PureC Try.prog 16 [aV a,aR by'] (.fresh 41 3 ((scaleQ a by'.val).map fun q=>fR (rawQ q)) (!(scaleQ a by'.val).isEmpty)):=by
 have ha1:=ha.1
 unfold scaleQ
 refine pureC_of (rs:=[(RV.tmp 4)]) Try.func16 (fun a w=>Try.call16 a w) body16 cc16 (by kernel_rfl) ?_
 rw [Try.ntmps16]
 simp only [frs,nA,nS]
 repeat (first | (with_reducible first | refine Way.imp ?_ | refine blk_o rfl ?_) | ((with_reducible refine WayR.imp (fun K hK=>?_));simp (disch:=first | omega | (simp only [dls];omega)) only [std,reduceIte,reduceCtorEq,iT,nA,nS,nM,iA,iS,iM,iN,fU];subst hK))
 refine AWp.fgt ?_ (Fgt.openNil (i:=5) rfl 41 3)
 simp only [List.set_cons_succ,List.set_cons_zero,List.length_nil,List.length_cons,List.nil_append,List.cons_append,nA]
 refine awp_loop (fun (zz:Nat × (List RR) × Nat × Bool)=>⟨(aV a :: aR by' :: .junk :: .one (.ptr 0 0 0 0) :: .one (.c (.val (.slice none 0 0))) :: .one (.own 1 zz.2.2.1) :: .junk :: .junk :: aV a :: aI (osl a).length :: aI zz.1 :: .junk :: .junk :: .junk :: .junk :: .junk :: .junk :: .junk :: .junk :: .junk :: .junk :: .junk :: []),[⟨0,41,3,[[.c (.val (.bool by'.minus)),.c (nr by'.size),.c (nr by'.den)]],true,true⟩,⟨zz.2.2.1,41,3,encB fR zz.2.1,true,zz.2.2.2⟩]⟩) (fun (zz:Nat × (List RR) × Nat × Bool)=>zz.1 <= (osl a).length /\ zz.2.1 = ((osl a).take zz.1).map (fun r=>rawQ (r.val * by'.val)) /\ zz.2.2.2 = !zz.2.1.isEmpty) (fun (zz:Nat × (List RR) × Nat × Bool)=>(osl a).length - zz.1) (0,[],0,false) ?hI3 (Fgt.head (Nat.zero_le 2) [true,true,false,true,true,true,false,false,true,true,true] ?hT3 ?hH3) ?hB3
 case hT3=>first | (simp (disch:=omega) only [hds,liveT,cleanAV,cleanCell,clean1,cleanBlk,reduceIte,iS,iA,iN,encB_nil];done) | rfl
 case hH3=>first | (simp (disch:=omega) only [hds,liveT,cleanAV,cleanCell,clean1,cleanBlk,reduceIte,iS,iA,iN,encB_nil];done) | rfl
 ·dsimp only;exact ⟨by omega,rfl,rfl⟩
 rintro ⟨i,out,v,nn⟩ ⟨hi,ho,hnn⟩
 dsimp only at hi ho hnn
 by_cases him:i = (osl a).length
 ·repeat (first | (with_reducible first | refine Way.imp ?_ | refine blk_o rfl ?_) | ((with_reducible refine WayR.imp (fun K hK=>?_));simp (disch:=first | omega | (simp only [dls];omega)) only [std,reduceIte,reduceCtorEq,iT,nA,nS,nM,iA,iS,iM,iN,fU];subst hK))
  refine ⟨_,rfl,?_⟩
  rw [him,List.take_length] at ho
  have he:(!((osl a).map fun r=>r.val * by'.val).isEmpty) = nn:=by rw [hnn,ho];cases (osl a) <;> rfl
  rw [he,List.map_map,show ((fun q=>fR (rawQ q)) ∘ fun r:RR=>r.val * by'.val) = fR ∘ (fun r:RR=>rawQ (r.val * by'.val)) from rfl,<- List.map_map,<- ho]
  exact Ends.fresh_enc rfl
 ·have hlt:i < (osl a).length:=by omega
  have hmu:=rmul_C (osl a)[i] by' ((ha.2 _ (List.getElem_mem hlt)).mono (by omega)) (hb.mono (by omega))
  have hol:out.length = i:=by rw [ho,List.length_map,List.length_take];omega
  repeat (first | (with_reducible first | refine Way.imp ?_ | refine blk_o rfl ?_) | ((with_reducible refine WayR.imp (fun K hK=>?_));simp (disch:=first | omega | (simp only [dls];omega)) only [std,reduceIte,reduceCtorEq,iT,nA,nS,nM,iA,iS,iM,iN,fU,fR];subst hK) | refine zcA (hmu) rfl rfl rfl ?_)
  refine ⟨(i + 1,out ++ [rawQ ((osl a)[i].val * by'.val)],v + 1,true),?hI4,?hM4,Fgt.head (Nat.zero_le 2) [true,true,false,true,true,true,false,false,true,true,true] ?hT4 ?hH4⟩
  case hT4=>first | (simp (disch:=omega) only [hds,liveT,cleanAV,cleanCell,clean1,cleanBlk,reduceIte,iS,iA,iN,encB_snoc_row,List.isEmpty_cons,Bool.or_true,Bool.not_false];done) | rfl
  case hH4=>first | (simp (disch:=omega) only [hds,liveT,cleanAV,cleanCell,clean1,cleanBlk,reduceIte,iS,iA,iN,encB_snoc_row,List.isEmpty_cons,Bool.or_true,Bool.not_false];done) | rfl
  ·dsimp only
   refine ⟨by omega,?_,by simp⟩
   rw [ho,List.take_succ_eq_append_getElem hlt,List.map_append]
   rfl
  ·dsimp only;omega
theorem vadd_R (a b:VV) (n L:Nat) (ha:FitsV a n L) (hb:FitsV b n L) (hn:n <= 1000000) (hL:1 <= L) (hL2:L <= 4000000):PureC Try.prog 90 [aV a,aV b] (.ret (aV (rowO ((addQ a b).map rawQ)))) :=
 PureC.fresh_rowO ((vadd_C a b n L ha hb hn hL hL2).to (by rw [List.map_map,List.isEmpty_map];rfl))
theorem vscale_R (a:VV) (by':RR) (n L:Nat) (ha:FitsV a n L) (hb:Fits by' L) (hn:n <= 1000000) (hL:1 <= L) (hL2:L <= 4000000):PureC Try.prog 16 [aV a,aR by'] (.ret (aV (rowO ((scaleQ a by'.val).map rawQ)))) :=
 PureC.fresh_rowO ((vscale_C a by' n L ha hb hn hL hL2).to (by rw [List.map_map,List.isEmpty_map];rfl))
theorem cmpQ_zero (a b:Rat):(cmpQ a b == 0) = decide (a = b):=by
 unfold cmpQ
 by_cases h1:a < b
 ·have:a ≠ b:=fun e=>Rat.lt_irrefl (e ▸ h1)
  rw [if_pos h1];simp [this]
 ·by_cases h2:b < a
  ·have:a ≠ b:=fun e=>Rat.lt_irrefl (e ▸ h2)
   rw [if_neg h1,if_pos h2];simp [this]
  ·have:a = b:=Rat.le_antisymm (Rat.not_lt.1 h2) (Rat.not_lt.1 h1)
   rw [if_neg h1,if_neg h2];simp [this]
abbrev c46:CC:=(.seq (.reg [⟨some 2,none,.box 41 (.tmp 0)⟩,⟨some 3,none,.box 41 (.tmp 1)⟩,⟨some 4,none,.mv (.const (.bool false))⟩]) (.seq (.reg [⟨some 5,none,.load 3 true (.tmp 2)⟩,⟨some 6,none,.load 3 true (.tmp 3)⟩,⟨some 7,none,.callf (.func 17) [(.tmp 5),(.tmp 6)]⟩,⟨some 8,none,.bin .eql (.tmp 7) (.const (.int .i64 (0)))⟩,⟨some 4,none,.mv (.tmp 8)⟩]) .ret))
theorem cc46:ccode Try.prog [] (Try.f46.body.getD .skip) = some c46:=by kernel_rfl
theorem body46:Try.f46.body = some (Try.f46.body.getD .skip):=rfl
theorem same1_C (a b:RR) (ha:Fits a 90000000) (hb:Fits b 90000000):PureC Try.prog 46 [aR a,aR b] (.ret (aB (decide (a.val = b.val)))):=by
 have hc:=rcompare_C a b ha hb
 rw [<- cmpQ_zero]
 refine pureC_of (rs:=[(RV.tmp 4)]) Try.func46 (fun a w=>Try.call46 a w) body46 cc46 (by kernel_rfl) ?_
 rw [Try.ntmps46]
 simp only [frs,nA,nS]
 repeat (first | (with_reducible first | refine Way.imp ?_ | refine blk_o rfl ?_) | ((with_reducible refine WayR.imp (fun K hK=>?_));simp (disch:=first | omega | (simp only [dls];omega)) only [std,reduceIte,reduceCtorEq,iT,nA,nS,nM,iA,iS,iM,iN,fU];subst hK) | refine zcA (hc) rfl rfl rfl ?_)
 exact ⟨_,rfl,rfl⟩
abbrev aSame1:AV:=.one (.fn 46 [])
def sameTo (a b:VV) (k:Nat):Bool:=(List.range k).all fun i=>decide (qAt a i = qAt b i)
def sameQ (a b:VV):Bool:=((osl a).length == (osl b).length) && sameTo a b (osl a).length
theorem sameTo_succ (a b:VV) (k:Nat):sameTo a b (k + 1) = (sameTo a b k && decide (qAt a k = qAt b k)):=by
 unfold sameTo;rw [List.range_succ,List.all_append];simp
theorem sameTo_false {a b:VV} {k m:Nat} (hk:k < m) (h:qAt a k ≠ qAt b k):sameTo a b m = false:=by
 unfold sameTo
 rw [List.all_eq_false]
 exact ⟨k,List.mem_range.2 hk,by simpa using h⟩
abbrev c45_k1:CC:=(.seq (.reg [⟨some 6,none,.mv (.const (.bool true))⟩]) .ret)
abbrev c45_b1:CC:=(.seq (.reg [⟨some 18,none,.bin .lss (.tmp 17) (.tmp 16)⟩]) (.seq (.cond (.tmp 18) .skip (.exit 0)) (.seq (.block 1 (.seq (.reg [⟨some 19,none,.mv (.tmp 17)⟩,⟨some 20,none,.iaddr 3 none (.tmp 15) (.tmp 17)⟩,⟨some 21,none,.load 3 true (.tmp 20)⟩,⟨some 8,none,.new 41 [(.bool false),(.slice none 0 0),(.slice none 0 0)]⟩,⟨some 7,none,.mv (.tmp 19)⟩,⟨none,none,.store 3 (.tmp 8) (.tmp 21)⟩]) (.seq (.reg [⟨some 22,none,.mv (.tmp 1)⟩,⟨some 23,none,.mv (.tmp 7)⟩,⟨some 24,none,.iaddr 3 none (.tmp 22) (.tmp 23)⟩,⟨some 25,none,.load 3 true (.tmp 24)⟩,⟨some 9,none,.new 41 [(.bool false),(.slice none 0 0),(.slice none 0 0)]⟩,⟨none,none,.store 3 (.tmp 9) (.tmp 25)⟩]) (.seq (.reg [⟨some 26,none,.mv (.tmp 2)⟩,⟨some 27,none,.load 3 true (.tmp 8)⟩,⟨some 28,none,.load 3 true (.tmp 9)⟩,⟨some 29,none,.callf (.tmp 26) [(.tmp 27),(.tmp 28)]⟩,⟨some 30,none,.un .not (.tmp 29)⟩]) (.cond (.tmp 30) (.seq (.reg [⟨some 6,none,.mv (.const (.bool false))⟩]) .ret) .skip))))) (.reg [⟨some 31,none,.bin .add (.tmp 17) (.const (.int .i64 (1)))⟩,⟨some 17,none,.mv (.tmp 31)⟩]))))
abbrev c45:CC:=(.seq (.reg [⟨some 6,none,.mv (.const (.bool false))⟩]) (.seq (.seq (.reg [⟨some 10,none,.mv (.tmp 0)⟩,⟨some 11,none,.len false (.tmp 10)⟩,⟨some 12,none,.mv (.tmp 1)⟩,⟨some 13,none,.len false (.tmp 12)⟩,⟨some 14,none,.bin .neq (.tmp 11) (.tmp 13)⟩]) (.cond (.tmp 14) (.seq (.reg [⟨some 6,none,.mv (.const (.bool false))⟩]) .ret) .skip)) (.seq (.seq (.reg [⟨some 15,none,.mv (.tmp 0)⟩,⟨some 16,none,.len false (.tmp 15)⟩,⟨some 17,none,.mv (.const (.int .i64 (0)))⟩]) (.block 0 (.loop c45_b1))) c45_k1)))
theorem cc45:ccode Try.prog [] (Try.f45.body.getD .skip) = some c45:=by kernel_rfl
theorem body45:Try.f45.body = some (Try.f45.body.getD .skip):=rfl
theorem equalf_C (a b:VV) (n L:Nat) (ha:FitsV a n L) (hb:FitsV b n L) (hn:n <= 1000000) (hL2:L <= 1000000) :
  PureC Try.prog 45 [aV a,aV b,aSame1] (.ret (aB (sameQ a b))):=by
 have ha1:=ha.1
 have hb1:=hb.1
 refine pureC_of (rs:=[(RV.tmp 6)]) Try.func45 (fun a w=>Try.call45 a w) body45 cc45 (by kernel_rfl) ?_
 rw [Try.ntmps45]
 simp only [frs,nA,nS]
 by_cases hl:(osl a).length = (osl b).length
 ·have hq:sameQ a b = sameTo a b (osl a).length:=by unfold sameQ;rw [hl];simp
  rw [hq]
  repeat (first | (with_reducible first | refine Way.imp ?_ | refine blk_o rfl ?_) | ((with_reducible refine WayR.imp (fun K hK=>?_));simp (disch:=first | omega | (simp only [dls];omega)) only [std,reduceIte,reduceCtorEq,iT,nA,nS,nM,iA,iS,iM,iN,fU];subst hK))
  refine awp_loop (fun (zz:Nat)=>⟨(aV a :: aV b :: aSame1 :: .junk :: .junk :: .junk :: aB false :: .junk :: .junk :: .junk :: .junk :: .junk :: .junk :: .junk :: .junk :: aV a :: aI (osl a).length :: aI zz :: .junk :: .junk :: .junk :: .junk :: .junk :: .junk :: .junk :: .junk :: .junk :: .junk :: .junk :: .junk :: .junk :: .junk :: []),[]⟩) (fun (zz:Nat)=>zz <= (osl a).length /\ sameTo a b zz = true) (fun (zz:Nat)=>(osl a).length - zz) (0) ?hI1 (Fgt.head (Nat.le_refl _) [true,true,true,false,false,false,true,false,false,false,false,false,false,false,false,true,true,true] ?hT1 ?hH1) ?hB1
  case hT1=>first | (simp (disch:=omega) only [hds,liveT,cleanAV,cleanCell,clean1,cleanBlk,reduceIte,iS,iA,iN];done) | rfl
  case hH1=>first | (simp (disch:=omega) only [hds,liveT,cleanAV,cleanCell,clean1,cleanBlk,reduceIte,iS,iA,iN];done) | rfl
  ·exact ⟨Nat.zero_le _,rfl⟩
  rintro i ⟨hi,hs⟩
  by_cases him:i = (osl a).length
  ·repeat (first | (with_reducible first | refine Way.imp ?_ | refine blk_o rfl ?_) | ((with_reducible refine WayR.imp (fun K hK=>?_));simp (disch:=first | omega | (simp only [dls];omega)) only [std,reduceIte,reduceCtorEq,iT,nA,nS,nM,iA,iS,iM,iN,fU];subst hK))
   rw [<- him,hs]
   exact ⟨_,rfl,rfl⟩
  ·have hlt:i < (osl a).length:=by omega
   have hltb:i < (osl b).length:=by omega
   have hsm:=same1_C (osl a)[i] (osl b)[i] ((ha.2 _ (List.getElem_mem hlt)).mono (by omega)) ((hb.2 _ (List.getElem_mem hltb)).mono (by omega))
   rw [<- rAt_in hlt,<- rAt_in hltb] at hsm
   change PureC _ _ _ (.ret (aB (decide (qAt a i = qAt b i)))) at hsm
   rw [rAt_in hlt,rAt_in hltb] at hsm
   by_cases he:qAt a i = qAt b i
   ·rw [decide_eq_true he] at hsm
    repeat (first | (with_reducible first | refine Way.imp ?_ | refine blk_o rfl ?_) | ((with_reducible refine WayR.imp (fun K hK=>?_));simp (disch:=first | omega | (simp only [dls];omega)) only [std,reduceIte,reduceCtorEq,iT,nA,nS,nM,iA,iS,iM,iN,fU,fR];subst hK) | refine zcV (hsm) rfl rfl rfl ?_)
    refine ⟨(i + 1),?hI2,?hM2,Fgt.head (Nat.le_refl _) [true,true,true,false,false,false,true,false,false,false,false,false,false,false,false,true,true,true] ?hT2 ?hH2⟩
    case hT2=>first | (simp (disch:=omega) only [hds,liveT,cleanAV,cleanCell,clean1,cleanBlk,reduceIte,iS,iA,iN];done) | rfl
    case hH2=>first | (simp (disch:=omega) only [hds,liveT,cleanAV,cleanCell,clean1,cleanBlk,reduceIte,iS,iA,iN];done) | rfl
    ·exact ⟨Nat.succ_le_of_lt hlt,by rw [sameTo_succ,hs,decide_eq_true he];rfl⟩
    ·show (osl a).length - (i + 1) < (osl a).length - i;omega
   ·rw [decide_eq_false he] at hsm
    repeat (first | (with_reducible first | refine Way.imp ?_ | refine blk_o rfl ?_) | ((with_reducible refine WayR.imp (fun K hK=>?_));simp (disch:=first | omega | (simp only [dls];omega)) only [std,reduceIte,reduceCtorEq,iT,nA,nS,nM,iA,iS,iM,iN,fU,fR];subst hK) | refine zcV (hsm) rfl rfl rfl ?_)
    rw [sameTo_false hlt he]
    exact ⟨_,rfl,rfl⟩
 ·have hq:sameQ a b = false:=by unfold sameQ;simp [hl]
  rw [hq]
  repeat (first | (with_reducible first | refine Way.imp ?_ | refine blk_o rfl ?_) | ((with_reducible refine WayR.imp (fun K hK=>?_));simp (disch:=first | omega | (simp only [dls];omega)) only [std,reduceIte,reduceCtorEq,iT,nA,nS,nM,iA,iS,iM,iN,fU];subst hK))
  exact ⟨_,rfl,rfl⟩
theorem ints_R (a:List Int) (hl:a.length <= 1000000) (hb:∀ n ∈ a,-9223372036854775808 <= n /\ n <= 9223372036854775807):PureC Try.prog 20 [.one (.c (encSl 1 fI (some a)))] (.ret (aV (rowO (a.map fun n:Int=>rawQ (n:Rat))))) :=
 PureC.fresh_rowO ((ints_C a hl hb).to (by cases a <;> rfl))
def shortR (r:RR):Bool:=decide ((osl r.size).length <= 3) && decide ((osl r.den).length <= 3)
theorem shortR_fits {r:RR} (h:shortR r = true):Fits r 3:=by
 simp only [shortR,Bool.and_eq_true,decide_eq_true_eq] at h
 exact h
def fewTo (a:VV) (k:Nat):Bool:=(List.range k).all fun i=>shortR (rAt a i)
def fewB (a:VV):Bool:=fewTo a (min (osl a).length 9) && decide ((osl a).length <= 8)
theorem fewTo_succ (a:VV) (k:Nat):fewTo a (k + 1) = (fewTo a k && shortR (rAt a k)):=by
 unfold fewTo;rw [List.range_succ,List.all_append];simp
theorem fewTo_false {a:VV} {k m:Nat} (hk:k < m) (h:shortR (rAt a k) = false):fewTo a m = false:=by
 unfold fewTo
 rw [List.all_eq_false]
 exact ⟨k,List.mem_range.2 hk,by simp [h]⟩
theorem fewB_fits {a:VV} (h:fewB a = true):FitsV a 8 3:=by
 simp only [fewB,Bool.and_eq_true,decide_eq_true_eq] at h
 refine ⟨h.2,fun r hr=>?_⟩
 obtain ⟨i,hi,rfl⟩:=List.getElem_of_mem hr
 have:=List.all_eq_true.1 h.1 i (List.mem_range.2 (by omega))
 rw [rAt_in hi] at this
 exact shortR_fits this
abbrev c35_k1:CC:=(.seq (.reg [⟨some 31,none,.mv (.tmp 0)⟩,⟨some 32,none,.len false (.tmp 31)⟩,⟨some 33,none,.bin .leq (.tmp 32) (.const (.int .i64 (8)))⟩,⟨some 2,none,.mv (.tmp 33)⟩]) .ret)
abbrev c35_b1:CC:=(.seq (.seq (.reg [⟨some 4,none,.mv (.tmp 3)⟩,⟨some 5,none,.mv (.tmp 0)⟩,⟨some 6,none,.len false (.tmp 5)⟩,⟨some 7,none,.bin .lss (.tmp 4) (.tmp 6)⟩,⟨some 8,none,.mv (.tmp 7)⟩,⟨some 9,(some (8,true)),.mv (.tmp 3)⟩,⟨some 10,(some (8,true)),.bin .leq (.tmp 9) (.const (.int .i64 (8)))⟩,⟨some 11,none,.pick (.tmp 8) (.tmp 10) (.const (.bool false))⟩]) (.cond (.tmp 11) .skip (.exit 0))) (.seq (.block 1 (.seq (.reg [⟨some 14,none,.mv (.tmp 0)⟩,⟨some 15,none,.mv (.tmp 3)⟩,⟨some 16,none,.iaddr 3 none (.tmp 14) (.tmp 15)⟩,⟨some 17,none,.faddr 0 (.tmp 16)⟩,⟨some 18,none,.faddr 1 (.tmp 17)⟩,⟨some 19,none,.load 1 false (.tmp 18)⟩,⟨some 20,none,.len false (.tmp 19)⟩,⟨some 21,none,.bin .gtr (.tmp 20) (.const (.int .i64 (3)))⟩,⟨some 22,none,.mv (.tmp 21)⟩,⟨some 23,(some (22,false)),.mv (.tmp 0)⟩,⟨some 24,(some (22,false)),.mv (.tmp 3)⟩,⟨some 25,(some (22,false)),.iaddr 3 none (.tmp 23) (.tmp 24)⟩,⟨some 26,(some (22,false)),.faddr 2 (.tmp 25)⟩,⟨some 27,(some (22,false)),.load 1 false (.tmp 26)⟩,⟨some 28,(some (22,false)),.len false (.tmp 27)⟩,⟨some 29,(some (22,false)),.bin .gtr (.tmp 28) (.const (.int .i64 (3)))⟩,⟨some 30,none,.pick (.tmp 22) (.const (.bool true)) (.tmp 29)⟩]) (.cond (.tmp 30) (.seq (.reg [⟨some 2,none,.mv (.const (.bool false))⟩]) .ret) .skip))) (.reg [⟨some 12,none,.mv (.tmp 3)⟩,⟨some 13,none,.bin .add (.tmp 12) (.const (.int .i64 (1)))⟩,⟨some 3,none,.mv (.tmp 13)⟩])))
abbrev c35:CC:=(.seq (.reg [⟨some 2,none,.mv (.const (.bool false))⟩]) (.seq (.seq (.reg [⟨some 3,none,.mv (.const (.int .i64 (0)))⟩]) (.block 0 (.loop c35_b1))) c35_k1))
theorem cc35:ccode Try.prog [] (Try.f35.body.getD .skip) = some c35:=by kernel_rfl
theorem body35:Try.f35.body = some (Try.f35.body.getD .skip):=rfl
theorem few_C (a:VV):PureC Try.prog 35 [aV a] (.ret (aB (fewB a))):=by
 unfold fewB
 refine pureC_of (rs:=[(RV.tmp 2)]) Try.func35 (fun a w=>Try.call35 a w) body35 cc35 (by kernel_rfl) ?_
 rw [Try.ntmps35]
 simp only [frs,nA,nS]
 repeat (first | (with_reducible first | refine Way.imp ?_ | refine blk_o rfl ?_) | ((with_reducible refine WayR.imp (fun K hK=>?_));simp (disch:=first | omega | (simp only [dls];omega)) only [std,reduceIte,reduceCtorEq,iT,nA,nS,nM,iA,iS,iM,iN,fU];subst hK))
 refine awp_loop (fun (zz:Nat)=>⟨(aV a :: .junk :: aB false :: aI zz :: .junk :: .junk :: .junk :: .junk :: .junk :: .junk :: .junk :: .junk :: .junk :: .junk :: .junk :: .junk :: .junk :: .junk :: .junk :: .junk :: .junk :: .junk :: .junk :: .junk :: .junk :: .junk :: .junk :: .junk :: .junk :: .junk :: .junk :: .junk :: .junk :: .junk :: []),[]⟩) (fun (zz:Nat)=>zz <= min (osl a).length 9 /\ fewTo a zz = true) (fun (zz:Nat)=>10 - zz) (0) ?hI1 (Fgt.head (Nat.le_refl _) [true,false,true,true] ?hT1 ?hH1) ?hB1
 case hT1=>first | (simp (disch:=omega) only [hds,liveT,cleanAV,cleanCell,clean1,cleanBlk,reduceIte,iS,iA,iN];done) | rfl
 case hH1=>first | (simp (disch:=omega) only [hds,liveT,cleanAV,cleanCell,clean1,cleanBlk,reduceIte,iS,iA,iN];done) | rfl
 ·exact ⟨Nat.zero_le _,rfl⟩
 rintro i ⟨hi,hs⟩
 by_cases h1:i < (osl a).length
 ·by_cases h2:i <= 8
  ·have hsh:shortR (rAt a i) = (decide ((osl (osl a)[i].size).length <= 3) && decide ((osl (osl a)[i].den).length <= 3)):=by unfold shortR;rw [rAt_in h1]
   by_cases s1:(osl (osl a)[i].size).length <= 3
   ·by_cases s2:(osl (osl a)[i].den).length <= 3
    ·repeat (first | (with_reducible first | refine Way.imp ?_ | refine blk_o rfl ?_) | ((with_reducible refine WayR.imp (fun K hK=>?_));simp (disch:=first | omega | (simp only [dls];omega)) only [std,reduceIte,reduceCtorEq,iT,nA,nS,nM,iA,iS,iM,iN,fU,fR];subst hK))
     refine ⟨(i + 1),?hI2,?hM2,Fgt.head (Nat.le_refl _) [true,false,true,true] ?hT2 ?hH2⟩
     case hT2=>first | (simp (disch:=omega) only [hds,liveT,cleanAV,cleanCell,clean1,cleanBlk,reduceIte,iS,iA,iN];done) | rfl
     case hH2=>first | (simp (disch:=omega) only [hds,liveT,cleanAV,cleanCell,clean1,cleanBlk,reduceIte,iS,iA,iN];done) | rfl
     ·exact ⟨by omega,by rw [fewTo_succ,hs,hsh,decide_eq_true s1,decide_eq_true s2];rfl⟩
     ·show 10 - (i + 1) < 10 - i;omega
    ·rw [fewTo_false (show i < min (osl a).length 9 by omega) (by rw [hsh,decide_eq_false s2];simp)]
     repeat (first | (with_reducible first | refine Way.imp ?_ | refine blk_o rfl ?_) | ((with_reducible refine WayR.imp (fun K hK=>?_));simp (disch:=first | omega | (simp only [dls];omega)) only [std,reduceIte,reduceCtorEq,iT,nA,nS,nM,iA,iS,iM,iN,fU,fR];subst hK))
     exact ⟨_,rfl,rfl⟩
   ·rw [fewTo_false (show i < min (osl a).length 9 by omega) (by rw [hsh,decide_eq_false s1];simp)]
    repeat (first | (with_reducible first | refine Way.imp ?_ | refine blk_o rfl ?_) | ((with_reducible refine WayR.imp (fun K hK=>?_));simp (disch:=first | omega | (simp only [dls];omega)) only [std,reduceIte,reduceCtorEq,iT,nA,nS,nM,iA,iS,iM,iN,fU,fR];subst hK))
    exact ⟨_,rfl,rfl⟩
  ·have h9:i = min (osl a).length 9:=by omega
   rw [<- h9,hs,decide_eq_false (by omega)]
   repeat (first | (with_reducible first | refine Way.imp ?_ | refine blk_o rfl ?_) | ((with_reducible refine WayR.imp (fun K hK=>?_));simp (disch:=first | omega | (simp only [dls];omega)) only [std,reduceIte,reduceCtorEq,iT,nA,nS,nM,iA,iS,iM,iN,fU];subst hK))
   exact ⟨_,rfl,rfl⟩
 ·have h9:i = min (osl a).length 9:=by omega
  rw [<- h9,hs]
  by_cases h8:(osl a).length <= 8
  ·rw [decide_eq_true h8]
   repeat (first | (with_reducible first | refine Way.imp ?_ | refine blk_o rfl ?_) | ((with_reducible refine WayR.imp (fun K hK=>?_));simp (disch:=first | omega | (simp only [dls];omega)) only [std,reduceIte,reduceCtorEq,iT,nA,nS,nM,iA,iS,iM,iN,fU];subst hK))
   exact ⟨_,rfl,rfl⟩
  ·rw [decide_eq_false h8]
   repeat (first | (with_reducible first | refine Way.imp ?_ | refine blk_o rfl ?_) | ((with_reducible refine WayR.imp (fun K hK=>?_));simp (disch:=first | omega | (simp only [dls];omega)) only [std,reduceIte,reduceCtorEq,iT,nA,nS,nM,iA,iS,iM,iN,fU];subst hK))
   exact ⟨_,rfl,rfl⟩
theorem cmpQ_pos (a b:Rat):(0 < cmpQ a b) ↔ b < a:=by
 unfold cmpQ
 by_cases h1:a < b
 ·rw [if_pos h1];constructor
  ·intro h;exact absurd h (by decide)
  ·intro h;grind
 ·rw [if_neg h1]
  by_cases h2:b < a
  ·rw [if_pos h2];simp [h2]
  ·rw [if_neg h2];simp [h2]
theorem cmpQ_neg (a b:Rat):(cmpQ a b < 0) ↔ a < b:=by
 unfold cmpQ
 by_cases h1:a < b
 ·rw [if_pos h1];simp [h1]
 ·rw [if_neg h1]
  by_cases h2:b < a
  ·rw [if_pos h2];simp [h1]
  ·rw [if_neg h2];simp [h1]
theorem rd_u32:Reads Try.prog 118 (fun l=>∃ d:UInt32,True /\ l = fU d):=reads_mono (reads_int Try.underlying118) (by
 rintro l ⟨n,hw,rfl⟩
 have hb:0 <= n /\ n <= 4294967295:=by simpa [Lit.wf,IntKind.min,IntKind.max,IntKind.signed,IntKind.bits] using hw
 refine ⟨UInt32.ofNat n.toNat,trivial,?_⟩
 have:(UInt32.ofNat n.toNat).toNat = n.toNat:=by simp [UInt32.toNat_ofNat,Nat.mod_eq_of_lt (show n.toNat < 4294967296 by omega)]
 simp only [fU,this]
 rw [Int.toNat_of_nonneg hb.1])
theorem rd_nat:Reads Try.prog 37 (fun l=>∃ r:Row,l = [nr r]):=reads_mono (reads_slice (k:=1) Try.underlying37 (by kernel_rfl) (by decide) (fun a=>rfl) rd_u32) (by
 rintro l ⟨s,_,rfl⟩
 exact ⟨s,rfl⟩)
theorem rd_bool:Reads Try.prog 4 (fun l=>∃ b:Bool,l = [.val (.bool b)]):=reads_bool Try.underlying4
theorem rd_int:Reads Try.prog 3 (fun l=>∃ n:Int,(-9223372036854775808 <= n /\ n <= 9223372036854775807) /\ l = [.val (.int .i64 n)]):=reads_mono (reads_int Try.underlying3) (by
 rintro l ⟨n,hw,rfl⟩
 exact ⟨n,by simpa [Lit.wf,IntKind.min,IntKind.max,IntKind.signed,IntKind.bits] using hw,rfl⟩)
theorem rd_whole:Reads Try.prog 39 (fun l=>∃ (b:Bool) (r:Row),l = [.val (.bool b),nr r]):=reads_mono (reads_struct2 (c0:=1) (c1:=1) Try.underlying39 rfl (by kernel_rfl) rfl (by kernel_rfl) (by kernel_rfl) rd_bool rd_nat) (by
 rintro l ⟨l0,l1,⟨b,rfl⟩,⟨r,rfl⟩,rfl⟩
 exact ⟨b,r,rfl⟩)
theorem rd_rat:Reads Try.prog 41 (fun l=>∃ r:RR,True /\ l = fR r):=reads_mono (reads_struct2 (c0:=2) (c1:=1) Try.underlying41 rfl (by kernel_rfl) rfl (by kernel_rfl) (by kernel_rfl) rd_whole rd_nat) (by
 rintro l ⟨l0,l1,⟨b,s,rfl⟩,⟨d,rfl⟩,rfl⟩
 exact ⟨⟨b,s,d⟩,trivial,rfl⟩)
theorem rd_vec:Reads Try.prog 23 (fun l=>∃ a:VV,l = [vr a]):=reads_mono (reads_slice (k:=3) Try.underlying23 (by kernel_rfl) (by decide) (fun a=>rfl) rd_rat) (by
 rintro l ⟨s,_,rfl⟩
 exact ⟨s,rfl⟩)
end Go.Proofs.Ytncgbjhojbnecaa
