/- The law PriceBest: the walk. -/
import Derived.Test.YtncgbjhojbnecaaGreatU7
import Derived.Test.YtncgbjhojbnecaaGreatUV
set_option linter.unusedSimpArgs false
set_option linter.unusedVariables false
set_option linter.unnecessarySimpa false
set_option maxRecDepth 100000
set_option maxHeartbeats 4000000
open Bool renaming true -> SA, and_eq_true -> JA
open List renaming mem_range -> zA
namespace Go.Proofs.YtncgbjhojbnecaaGreat
open Go Go.Am Go.Proofs Go.RowKit Go.Off
theorem o9 {p:PB} {x:VV} (h:r9 p x = SA):R8 (GC p) (LC x):=by
 unfold r9 at h
 simp only [JA,Bool.not_eq_true',decide_eq_true_eq] at h
 obtain ⟨hr,hl,h1,h2⟩:=h
 refine ⟨by rw [YL];exact hl,fun k hk=>?_,fun i hi=>?_⟩
 ·have hk':k < (UA p.C).length:=hk
  have:=xG h1 (show k < (UA x).length by omega)
  have e:pAt UY x k = decide (jE x k < 0):=rfl
  rw [e,decide_eq_false_iff_not,Rat.not_lt] at this
  show 0 <= (LC x).getD k 0
  rw [LO]
  exact this
 ·have hi':i < (UA p.A).length:=hi
  obtain ⟨_,_,_,l4⟩:=qG hr
  unfold doesTo at h2
  have:=List.all_eq_true.1 h2 i (zA.2 hi')
  rw [decide_eq_true_eq,c7] at this
  unfold dP at this
  rw [mF hi',l4 i hi',hl,Nat.min_self,<- mF hi'] at this
  refine Eq.trans (dB (fun k _=>?_)) this
  show jE (RJ p.A i) k * (LC x).getD k 0 = _
  rw [LO]
end Go.Proofs.YtncgbjhojbnecaaGreat
