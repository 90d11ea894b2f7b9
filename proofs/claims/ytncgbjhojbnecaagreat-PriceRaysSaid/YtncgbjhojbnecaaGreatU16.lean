/- Walks of offcutref01: Mul, DivMod, Gcd, Of. -/
import Derived.ChangeSame
import Derived.Test.YtncgbjhojbnecaaGreatRows
import Derived.JoinedOf
import Derived.ProofKit
import Derived.Test.YtncgbjhojbnecaaGreatU10
import Derived.Test.YtncgbjhojbnecaaGreatU11
import Derived.Test.YtncgbjhojbnecaaGreatU12
import Derived.Test.YtncgbjhojbnecaaGreatU15
import Derived.Test.YtncgbjhojbnecaaGreatU5
import Derived.Test.YtncgbjhojbnecaaGreatU7
import Derived.Test.YtncgbjhojbnecaaGreatU9
set_option linter.unusedSimpArgs false
set_option linter.unusedVariables false
set_option linter.unnecessarySimpa false
set_option maxRecDepth 100000
set_option maxHeartbeats 4000000
open Option renaming some -> PA, none -> QA
open Nat renaming le_refl -> EA
open Bool renaming true -> SA, false -> TA
namespace Go.Proofs.YtncgbjhojbnecaaGreat
open Go Go.Am Go.Proofs Go.Off
end Go.Proofs.YtncgbjhojbnecaaGreat
namespace Go.Proofs.YtncgbjhojbnecaaGreat
open Go Go.Am Go.Proofs Go.Off
def Short (n:Nat):Prop:=(ZC n).length <= 10000000000
theorem Short.le {n m:Nat} (h:Short n) (hm:m <= n):Short m:=by
 unfold Short at *
 refine Decidable.byContradiction fun h2=>?_
 have:=dec_len_lt (a:=n) (b:=m) (by omega)
 omega
end Go.Proofs.YtncgbjhojbnecaaGreat
namespace Go.Proofs.YtncgbjhojbnecaaGreat
open Go Go.Am Go.Proofs Go.Off
end Go.Proofs.YtncgbjhojbnecaaGreat
namespace Go.Proofs.YtncgbjhojbnecaaGreat
open Go Go.Am Go.Proofs Go.Off
open Go Go.Am Go.Proofs Go.RowKit Go.Off
theorem rd_str:sD Tryz.prog 9 (fun l=>∃ s:ZJ,True /\ l = fW s):=UC (IT Tryz.underlying9) (by
 rintro l ⟨s,_,rfl⟩
 exact ⟨s,trivial,rfl⟩)
theorem rd_strs:sD Tryz.prog 22 (fun l=>∃ s:Option (List ZJ),l = [jB 1 fW s]):=UC (MF (k:=1) Tryz.underlying22 (by kernel_rfl) (by decide) (fun a=>rfl) rd_str) (by
 rintro l ⟨s,_,rfl⟩
 exact ⟨s,rfl⟩)
theorem rd_row:sD Tryz.prog 50 (fun l=>∃ r:RowM,True /\ l = DD r):=UC (wR (c0:=1) (c1:=1) (c2:=1) (c3:=3) Tryz.underlying50 rfl (by kernel_rfl) rfl (by kernel_rfl) rfl (by kernel_rfl) rfl (by kernel_rfl) (by kernel_rfl) rd_str JT rd_int rd_rat) (by
 rintro l ⟨l0,l1,l2,l3,⟨s,_,rfl⟩,⟨c,rfl⟩,⟨n,_,rfl⟩,⟨b,_,rfl⟩,rfl⟩
 exact ⟨⟨s,c,n,b⟩,trivial,rfl⟩)
theorem rd_rows:sD Tryz.prog 24 (fun l=>∃ s:Option (List RowM),l = [jB 6 DD s]):=UC (MF (k:=6) Tryz.underlying24 (by kernel_rfl) (by decide) (fun a=>rfl) rd_row) (by
 rintro l ⟨s,_,rfl⟩
 exact ⟨s,rfl⟩)
def cMd (m:MD):List CV:=[jB 1 fW m.vars,vr m.cost,jB 6 DD m.rows]
theorem rd_model:sD Tryz.prog 26 (fun l=>∃ m:MD,l = cMd m):=UC (gL (c0:=1) (c1:=1) (c2:=1) Tryz.underlying26 rfl (by kernel_rfl) rfl (by kernel_rfl) rfl (by kernel_rfl) (by kernel_rfl) rd_strs JT rd_rows) (by
 rintro l ⟨l0,l1,l2,⟨v,rfl⟩,⟨c,rfl⟩,⟨r,rfl⟩,rfl⟩
 exact ⟨⟨v,c,r⟩,rfl⟩)
theorem rd_ints:sD Tryz.prog 35 (fun l=>∃ s:Option (List Int),((UA s).length <= 9223372036854775807 /\ ∀ z ∈ UA s,-9223372036854775808 <= z /\ z <= 9223372036854775807) /\ l = [jB 1 fI s]):=UC (MF (k:=1) Tryz.underlying35 (by kernel_rfl) (by decide) (fun a=>rfl) (UC rd_int (by
 rintro l ⟨n,hn,rfl⟩
 exact ⟨n,hn,rfl⟩))) (by
 rintro l ⟨s,hs,rfl⟩
 exact ⟨s,⟨by simpa [maxLen] using hs.2,hs.1⟩,rfl⟩)
end Go.Proofs.YtncgbjhojbnecaaGreat
namespace Go.Proofs.YtncgbjhojbnecaaGreat
open Go Go.Am Go.Proofs Go.RowKit Go.Off Go.ChangeShapes Go.WideShapes
theorem xR {P:Program} {t:TypeId} {f0:Field} {R0:List CV -> Prop} {c0:Nat} (ht:P.underlying t = PA (.struct #[f0])) (h0:f0.offset = 0) (hc0:P.cellsOf f0.type = c0) (hc:P.cellsOf t = c0) (r0:sD P f0.type R0):sD P t R0:=fun H enc w fuel cs x h=>by
 obtain ⟨y0,n,_,hl,k0⟩:=trod_struct1 ht h
 obtain ⟨l0,a0,p0⟩:=r0 H enc w n _ _ k0
 refine ⟨l0,a0,?_⟩
 rw [h0,hc0,List.drop_zero,List.take_of_length_le (by rw [hl,hc];exact EA _)] at p0
 exact p0
def Int64N (n:NB):Prop:=(UA n).length <= 9223372036854775807 /\ ∀ s ∈ UA n,∀ z ∈ UA s,-9223372036854775808 <= z /\ z <= 9223372036854775807
theorem rd_blocks:sD Tryz.prog 27 (fun l=>∃ n:NB,Int64N n /\ l = [jB 1 fIs n]):=UC (MF (k:=1) Tryz.underlying27 (by kernel_rfl) (by decide) (fun a=>rfl) (UC rd_ints (by
 rintro l ⟨s,hs,rfl⟩
 exact ⟨s,hs,rfl⟩))) (by
 rintro l ⟨s,hs,rfl⟩
 exact ⟨s,⟨by simpa [maxLen] using hs.2,fun q hq=>(hs.1 q hq).2⟩,rfl⟩)
theorem rd_notes:sD Tryz.prog 29 (fun l=>∃ n:NB,Int64N n /\ l = [jB 1 fIs n]):=xR (c0:=1) Tryz.underlying29 rfl (by kernel_rfl) (by kernel_rfl) rd_blocks
end Go.Proofs.YtncgbjhojbnecaaGreat
namespace Go.Proofs.YtncgbjhojbnecaaGreat
open Go
theorem eD {a b:Bool} (h:a = SA) (g:b = SA):(a && b) = SA:=by rw [h,g];rfl
theorem ownK:ownKnob Tryz.prog.godebug = QA:=by kernel_rfl
theorem kp1:laidOutB Tryz.prog = SA:=by kernel_rfl
theorem laidK:laidOutB Tryz.prog = SA:=kp1
theorem kp2:mapsRowed Tryz.prog = SA:=by kernel_rfl
theorem kp6:(Tryz.prog.stops == []) = SA:=by kernel_rfl
theorem kp8:(Tryz.prog.stopKnobs == []) = SA:=by kernel_rfl
theorem kp24:Tryz.prog.stopsHeard = SA:=by kernel_rfl
theorem kp25:Tryz.prog.mayEnter = SA:=by kernel_rfl
theorem kp22:Tryz.prog.plainKeys = SA:=by kernel_rfl
theorem kp26:Tryz.prog.liftsFinal = TA:=by kernel_rfl
theorem kp27:Tryz.prog.make = PA .cut:=by kernel_rfl
end Go.Proofs.YtncgbjhojbnecaaGreat
