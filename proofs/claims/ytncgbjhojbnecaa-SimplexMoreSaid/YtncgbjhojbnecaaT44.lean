/- A larger plan does not lose: SimplexMore holds -/
import Derived.WalkKit
import Derived.ProofKit
import Derived.OpenShut
import Derived.ShutString
import Derived.ChangeOld
import Derived.Below
import Derived.Test.YtncgbjhojbnecaaK0
import Derived.Test.YtncgbjhojbnecaaMB
import Derived.Test.YtncgbjhojbnecaaSG
set_option linter.unusedSimpArgs false
set_option linter.unusedVariables false
set_option linter.unnecessarySimpa false
set_option maxRecDepth 100000
set_option maxHeartbeats 4000000
namespace Go.Proofs.Ytncgbjhojbnecaa
open Go Go.Am Go.Proofs Go.RowKit Go.Off
open Go.ChangeShapes Go.WideShapes Go.ChangeAt
open Go.ChangeMaps (open_string shut_string)
set_option maxRecDepth 100000 in
theorem simplexMore_lifted (os:Os) (started:os.Started) (H:Type) (enc:TypeId × Value -> H) :
  ReturnsInHanded {} Try.checked os 6 .any (Rows.simplexMoreSpec.pre6 enc Try.prog Try.f6 Rows.simplexMoreRow.domain false) (Rows.simplexMoreSpec.post enc Try.prog Try.f6 false true false false):=by
 refine returnsInHanded_of_change (C:=Try.checked) ownK started (by kernel_rfl) Try.func6
  (ChangeSpec.witness6 (enc:=enc) (C:=Try.checked) false ⟨#[],#[.agg #[.slice none 0 0,.slice none 0 0,.slice none 0 0],.slice none 0 0,.agg #[.bool false,.slice none 0 0,.slice none 0 0]],[]⟩ 8 (by kernel_rfl) (by kernel_rfl) (by kernel_rfl) (by kernel_rfl)) ?_
 intro W base args ds gs before hval0 hW hcnd _
 have hval:∀ (j:Nat) t v,Try.f6.params[j]? = some t -> args[j]? = some v -> Value.okWide Try.prog W .any base t v:=hval0
 have hW':=hW
 obtain ⟨p,q,hA0,hV,rfl,hfz,hnd⟩:=hW
 have hA:DataW.TrodAll enc Try.prog W 0 (fun _=>true) true Try.f6.params.toList args.toList ds p:=hA0
 rw [Try.params6] at hA hval
 obtain ⟨v0,vs0,d0,ds0,p0,q0,hargs,rfl,rfl,h0,r0⟩:=trodAll_cons hA
 obtain ⟨v1,vs1,d1,ds1,p1,q1,rfl,rfl,rfl,h1,r1⟩:=trodAll_cons r0
 obtain ⟨v2,vs2,d2,ds2,p2,q2,rfl,rfl,rfl,h2,r2⟩:=trodAll_cons r1
 obtain ⟨rfl,rfl,rfl⟩:=trodAll_nil r2
 obtain rfl:args = #[v0,v1,v2]:=by cases args;simp_all
 obtain ⟨rfl,rfl⟩:=trodVars_none hV
 obtain ⟨cs0,rfl⟩:∃ cs,v0 = .agg cs:=by
  have h:=hval 0 25 v0 rfl rfl
  unfold Value.okWide at h
  rw [Try.underlying25] at h
  exact h.imp fun cs hc=>hc.1
 have lt0:∀ x ∈ p0,x.block < W.heap.size:=by obtain ⟨m,hm⟩:=h0;exact DataW.trod_lt m _ _ _ hm
 obtain ⟨x1,l1,c1,rfl⟩:=okWide_slice Try.underlying23 (hval 1 23 v1 rfl rfl)
 have lt1:∀ x ∈ p1,x.block < W.heap.size:=by obtain ⟨m,hm⟩:=h1;exact DataW.trod_lt m _ _ _ hm
 obtain ⟨cs2,rfl⟩:∃ cs,v2 = .agg cs:=by
  have h:=hval 2 41 v2 rfl rfl
  unfold Value.okWide at h
  rw [Try.underlying41] at h
  exact h.imp fun cs hc=>hc.1
 have lt2:∀ x ∈ p2,x.block < W.heap.size:=by obtain ⟨m,hm⟩:=h2;exact DataW.trod_lt m _ _ _ hm
 obtain ⟨y0,⟨a0,e0⟩,w0⟩:=avr_agg rd_problem h0
 obtain ⟨y1,⟨a1,e1⟩,w1⟩:=avr_cell rd_vec h1 rfl
 obtain ⟨y2,⟨a2,_,e2⟩,w2⟩:=avr_agg rd_rat h2
 subst e0
 cases e1
 subst e2
 clear hA0 hval0
 refine (law_calls (simplexMore_C a0 a1 a2) (fun g l hl=>by cases hl) (.cons w0 (.cons w1 (.cons w2 .nil)))).mono fun e W' ⟨he,bel⟩=>?_
 subst he
 exact ⟨_,rfl,_,_,_,[],_,[],hW',trodAll_mk1 (shut_bool Try.underlying4 _),(trodAll_cons_mk (Below.trod laidK (by kernel_rfl) (of_decide_eq_true (by kernel_rfl)) h0 bel lt0) (trodAll_cons_mk (Below.trod laidK (by kernel_rfl) (of_decide_eq_true (by kernel_rfl)) h1 bel lt1) (trodAll_cons_mk (Below.trod laidK (by kernel_rfl) (of_decide_eq_true (by kernel_rfl)) h2 bel lt2) trodAll_mk0))),rfl,bel.frame _,fun h=>by cases h⟩
theorem simplexMore_k0:Rows.simplexMoreRow.wf (OpenSpec.ofChange Rows.simplexMoreSpec) = true:=by kernel_rfl
theorem simplexMore_k3:Try.f6.params.all (Try.prog.readableRec ·) = true:=by kernel_rfl
theorem simplexMore_k4:namedTie Try.prog Rows.simplexMoreRow.named Rows.simplexMoreSpec.vars = true:=by kernel_rfl
theorem simplexMore_k5:(Rows.simplexMoreRow.stops == []) = true:=by kernel_rfl
theorem simplexMore_k7:(Rows.simplexMoreRow.knobs == []) = true:=by kernel_rfl
theorem simplexMore_k9:(Rows.simplexMoreRow.inPlace == Try.prog.inPlace 6) = true:=by kernel_rfl
theorem simplexMore_k10:(Rows.simplexMoreRow.unfollowed == Try.prog.unfollowed 6) = true:=by kernel_rfl
theorem simplexMore_k11:(Rows.simplexMoreRow.recurses == Try.prog.recurses 6) = true:=by kernel_rfl
theorem simplexMore_k12:(Rows.simplexMoreRow.named == Try.prog.varsNamed 6) = true:=by kernel_rfl
theorem simplexMore_k13:(Rows.simplexMoreRow.maps == (Try.f6.params.toList ++ Rows.simplexMoreSpec.plain.varTypes Try.prog).any (Try.prog.mapsRec ·)) = true:=by kernel_rfl
theorem simplexMore_k14:(Rows.simplexMoreRow.ifaces == (Try.f6.params.toList ++ Rows.simplexMoreSpec.plain.varTypes Try.prog).any (Try.prog.ifacesRec ·)) = true:=by kernel_rfl
theorem simplexMore_k15:(Rows.simplexMoreRow.mapsOut == Try.prog.mapsAmong Try.f6.resultTypes.toList) = true:=by kernel_rfl
theorem simplexMore_k16:(Rows.simplexMoreRow.loops == (Try.f6.params.toList ++ Rows.simplexMoreSpec.plain.varTypes Try.prog).any (Try.prog.loopsFrom ·)) = true:=by kernel_rfl
theorem simplexMore_k17:(Rows.simplexMoreRow.wideKeys == (Try.f6.params.toList ++ Rows.simplexMoreSpec.plain.varTypes Try.prog ++ Try.f6.resultTypes.toList).any (Try.prog.wideKeysFrom ·)) = true:=by kernel_rfl
theorem simplexMore_k18:Rows.simplexMoreSpec.vars.all (Try.prog.varReadable ·) = true:=by kernel_rfl
theorem simplexMore_k19:Try.f6.resultTypes.all (fun t=>Try.prog.readableRec t && decide (t < Try.prog.types.size)) = true:=by kernel_rfl
theorem simplexMore_k20:(Rows.simplexMoreRow.ifacesOut == Try.f6.resultTypes.toList.any (Try.prog.ifacesRec ·)) = true:=by kernel_rfl
theorem simplexMore_k21:(Rows.simplexMoreRow.loopsOut == Try.f6.resultTypes.toList.any (Try.prog.loopsFrom ·)) = true:=by kernel_rfl
theorem simplexMore_k22:(Rows.simplexMoreRow.plainKeys == Try.prog.plainKeys) = true:=by rw [kp22];rfl
theorem simplexMore_k23:Rows.simplexMoreRow.shortTexts.isNone = true:=by kernel_rfl
theorem simplexMore_k26:(Rows.simplexMoreRow.lifted == Try.prog.liftsFinal) = true:=by rw [kp26];rfl
theorem simplexMore_k27:(Try.prog.make == some Rows.simplexMoreRow.make) = true:=by rw [kp27];rfl
theorem simplexMore_k28:(Rows.simplexMoreRow.kinds == (if Rows.simplexMoreRow.domain.isEmpty then [] else Try.f6.params.toList.map fun t=>match Try.prog.underlying t with | some (.int k)=>some k | _=>none)) = true:=by kernel_rfl
theorem simplexMore_k29:(Rows.simplexMoreRow.pinned == Rows.simplexMoreRow.pinnedBy) = true:=by kernel_rfl
theorem simplexMore_k30:(Rows.simplexMoreRow.veiled == (Try.f6.params.toList ++ Rows.simplexMoreSpec.plain.varTypes Try.prog ++ Try.f6.resultTypes.toList).any (Try.prog.veiledRec ·)) = true:=by kernel_rfl
theorem simplexMore_k31:Rows.simplexMoreRow.veiledFits Try.prog Try.f6.params.toList (Try.f6.params.toList ++ Rows.simplexMoreSpec.plain.varTypes Try.prog ++ Try.f6.resultTypes.toList) = true:=by kernel_rfl
theorem simplexMore_facts:joinedFacts Try.prog 6 Try.f6 Rows.simplexMoreSpec Rows.simplexMoreRow = true:=(andK (andK (andK (andK (andK (andK (andK (andK (andK (andK (andK (andK (andK (andK (andK (andK (andK (andK (andK (andK (andK (andK (andK (andK (andK (andK (andK (andK (andK (andK (andK simplexMore_k0 kp1) kp2) simplexMore_k3) simplexMore_k4) simplexMore_k5) kp6) simplexMore_k7) kp8) simplexMore_k9) simplexMore_k10) simplexMore_k11) simplexMore_k12) simplexMore_k13) simplexMore_k14) simplexMore_k15) simplexMore_k16) simplexMore_k17) simplexMore_k18) simplexMore_k19) simplexMore_k20) simplexMore_k21) simplexMore_k22) simplexMore_k23) kp24) kp25) simplexMore_k26) simplexMore_k27) simplexMore_k28) simplexMore_k29) simplexMore_k30) simplexMore_k31)
theorem simplexMore_n1:Try.prog.funcNamed Rows.simplexMoreRow.func = some 6:=by kernel_rfl
theorem simplexMore_n3:Try.f6.isInstance Try.prog Rows.simplexMoreRow.origin Rows.simplexMoreRow.targs:=of_decide_eq_true (by kernel_rfl)
theorem simplexMore_n4:Try.f6.isWrapper Try.prog Rows.simplexMoreRow.wrapper Rows.simplexMoreRow.mainSum:=by unfold Func.isWrapper;first | (rw [if_pos (by decide +kernel)];kernel_rfl) | (rw [if_neg (by decide +kernel)];exact ⟨rfl,rfl⟩)
theorem simplexMore_holds:Rows.SimplexMoreSaid :=
 OpenClaim.holds_of_wide 6 Try.f6 rfl rfl rfl rfl rfl rfl rfl ⟨rfl,rfl,rfl,rfl,rfl⟩ rfl rfl rfl rfl rfl simplexMore_n1 Try.func6 simplexMore_facts simplexMore_n3 simplexMore_n4
  (fun os started H enc _=>simplexMore_lifted os started H enc)
#print axioms simplexMore_holds
end Go.Proofs.Ytncgbjhojbnecaa
