/- Of at most two rows the least cost is the cheapest corner: SimplexLeast holds -/
import Derived.WalkKit
import Derived.ProofKit
import Derived.OpenShut
import Derived.ShutString
import Derived.ChangeOld
import Derived.Below
import Derived.Test.YtncgbjhojbnecaaEH
import Derived.Test.YtncgbjhojbnecaaK0
import Derived.Test.YtncgbjhojbnecaaSI
set_option linter.unusedSimpArgs false
set_option linter.unusedVariables false
set_option linter.unnecessarySimpa false
set_option maxRecDepth 100000
set_option maxHeartbeats 4000000
namespace Go.Proofs.Ytncgbjhojbnecaa
open Go Go.Am Go.Proofs Go.RowKit Go.Off
open Go.ChangeShapes Go.WideShapes Go.ChangeAt
open Go.ChangeMaps (open_string shut_string)
set_option maxRecDepth 100000 in
theorem simplexLeast_lifted (os:Os) (started:os.Started) (H:Type) (enc:TypeId × Value -> H) :
  ReturnsInHanded {} Try.checked os 5 .any (Rows.simplexLeastSpec.pre6 enc Try.prog Try.f5 Rows.simplexLeastRow.domain false) (Rows.simplexLeastSpec.post enc Try.prog Try.f5 false true false false):=by
 refine returnsInHanded_of_change (C:=Try.checked) ownK started (by kernel_rfl) Try.func5
  (ChangeSpec.witness6 (enc:=enc) (C:=Try.checked) false ⟨#[],#[.slice none 0 0,.slice none 0 0,.slice none 0 0],[]⟩ 8 (by kernel_rfl) (by kernel_rfl) (by kernel_rfl) (by kernel_rfl)) ?_
 intro W base args ds gs before hval0 hW hcnd _
 have hval:∀ (j:Nat) t v,Try.f5.params[j]? = some t -> args[j]? = some v -> Value.okWide Try.prog W .any base t v:=hval0
 have hW':=hW
 obtain ⟨p,q,hA0,hV,rfl,hfz,hnd⟩:=hW
 have hA:DataW.TrodAll enc Try.prog W 0 (fun _=>true) true Try.f5.params.toList args.toList ds p:=hA0
 rw [Try.params5] at hA hval
 obtain ⟨v0,vs0,d0,ds0,p0,q0,hargs,rfl,rfl,h0,r0⟩:=trodAll_cons hA
 obtain ⟨v1,vs1,d1,ds1,p1,q1,rfl,rfl,rfl,h1,r1⟩:=trodAll_cons r0
 obtain ⟨v2,vs2,d2,ds2,p2,q2,rfl,rfl,rfl,h2,r2⟩:=trodAll_cons r1
 obtain ⟨rfl,rfl,rfl⟩:=trodAll_nil r2
 obtain rfl:args = #[v0,v1,v2]:=by cases args;simp_all
 obtain ⟨rfl,rfl⟩:=trodVars_none hV
 obtain ⟨x0,l0,c0,rfl⟩:=okWide_slice Try.underlying47 (hval 0 47 v0 rfl rfl)
 have lt0:∀ x ∈ p0,x.block < W.heap.size:=by obtain ⟨m,hm⟩:=h0;exact DataW.trod_lt m _ _ _ hm
 obtain ⟨x1,l1,c1,rfl⟩:=okWide_slice Try.underlying28 (hval 1 28 v1 rfl rfl)
 have lt1:∀ x ∈ p1,x.block < W.heap.size:=by obtain ⟨m,hm⟩:=h1;exact DataW.trod_lt m _ _ _ hm
 obtain ⟨x2,l2,c2,rfl⟩:=okWide_slice Try.underlying28 (hval 2 28 v2 rfl rfl)
 have lt2:∀ x ∈ p2,x.block < W.heap.size:=by obtain ⟨m,hm⟩:=h2;exact DataW.trod_lt m _ _ _ hm
 obtain ⟨y0,⟨a0,b0,e0⟩,w0⟩:=avr_cell rd_intss h0 rfl
 obtain ⟨y1,⟨a1,b1,e1⟩,w1⟩:=avr_cell rd_ints h1 rfl
 obtain ⟨y2,⟨a2,b2,e2⟩,w2⟩:=avr_cell rd_ints h2 rfl
 cases e0
 cases e1
 cases e2
 clear hA0 hval0
 refine (law_calls (simplexLeast_C a0 a1 a2 (fun s hs=>(b0.2 s hs).2) b1.2 b2.2 b0.1 b1.1 b2.1 (fun s hs=>(b0.2 s hs).1)) (fun g l hl=>by cases hl) (.cons w0 (.cons w1 (.cons w2 .nil)))).mono fun e W' ⟨he,bel⟩=>?_
 subst he
 exact ⟨_,rfl,_,_,_,[],_,[],hW',trodAll_mk1 (shut_bool Try.underlying4 _),(trodAll_cons_mk (Below.trod laidK (by kernel_rfl) (of_decide_eq_true (by kernel_rfl)) h0 bel lt0) (trodAll_cons_mk (Below.trod laidK (by kernel_rfl) (of_decide_eq_true (by kernel_rfl)) h1 bel lt1) (trodAll_cons_mk (Below.trod laidK (by kernel_rfl) (of_decide_eq_true (by kernel_rfl)) h2 bel lt2) trodAll_mk0))),rfl,bel.frame _,fun h=>by cases h⟩
theorem simplexLeast_k0:Rows.simplexLeastRow.wf (OpenSpec.ofChange Rows.simplexLeastSpec) = true:=by kernel_rfl
theorem simplexLeast_k3:Try.f5.params.all (Try.prog.readableRec ·) = true:=by kernel_rfl
theorem simplexLeast_k4:namedTie Try.prog Rows.simplexLeastRow.named Rows.simplexLeastSpec.vars = true:=by kernel_rfl
theorem simplexLeast_k5:(Rows.simplexLeastRow.stops == []) = true:=by kernel_rfl
theorem simplexLeast_k7:(Rows.simplexLeastRow.knobs == []) = true:=by kernel_rfl
theorem simplexLeast_k9:(Rows.simplexLeastRow.inPlace == Try.prog.inPlace 5) = true:=by kernel_rfl
theorem simplexLeast_k10:(Rows.simplexLeastRow.unfollowed == Try.prog.unfollowed 5) = true:=by kernel_rfl
theorem simplexLeast_k11:(Rows.simplexLeastRow.recurses == Try.prog.recurses 5) = true:=by kernel_rfl
theorem simplexLeast_k12:(Rows.simplexLeastRow.named == Try.prog.varsNamed 5) = true:=by kernel_rfl
theorem simplexLeast_k13:(Rows.simplexLeastRow.maps == (Try.f5.params.toList ++ Rows.simplexLeastSpec.plain.varTypes Try.prog).any (Try.prog.mapsRec ·)) = true:=by kernel_rfl
theorem simplexLeast_k14:(Rows.simplexLeastRow.ifaces == (Try.f5.params.toList ++ Rows.simplexLeastSpec.plain.varTypes Try.prog).any (Try.prog.ifacesRec ·)) = true:=by kernel_rfl
theorem simplexLeast_k15:(Rows.simplexLeastRow.mapsOut == Try.prog.mapsAmong Try.f5.resultTypes.toList) = true:=by kernel_rfl
theorem simplexLeast_k16:(Rows.simplexLeastRow.loops == (Try.f5.params.toList ++ Rows.simplexLeastSpec.plain.varTypes Try.prog).any (Try.prog.loopsFrom ·)) = true:=by kernel_rfl
theorem simplexLeast_k17:(Rows.simplexLeastRow.wideKeys == (Try.f5.params.toList ++ Rows.simplexLeastSpec.plain.varTypes Try.prog ++ Try.f5.resultTypes.toList).any (Try.prog.wideKeysFrom ·)) = true:=by kernel_rfl
theorem simplexLeast_k18:Rows.simplexLeastSpec.vars.all (Try.prog.varReadable ·) = true:=by kernel_rfl
theorem simplexLeast_k19:Try.f5.resultTypes.all (fun t=>Try.prog.readableRec t && decide (t < Try.prog.types.size)) = true:=by kernel_rfl
theorem simplexLeast_k20:(Rows.simplexLeastRow.ifacesOut == Try.f5.resultTypes.toList.any (Try.prog.ifacesRec ·)) = true:=by kernel_rfl
theorem simplexLeast_k21:(Rows.simplexLeastRow.loopsOut == Try.f5.resultTypes.toList.any (Try.prog.loopsFrom ·)) = true:=by kernel_rfl
theorem simplexLeast_k22:(Rows.simplexLeastRow.plainKeys == Try.prog.plainKeys) = true:=by rw [kp22];rfl
theorem simplexLeast_k23:Rows.simplexLeastRow.shortTexts.isNone = true:=by kernel_rfl
theorem simplexLeast_k26:(Rows.simplexLeastRow.lifted == Try.prog.liftsFinal) = true:=by rw [kp26];rfl
theorem simplexLeast_k27:(Try.prog.make == some Rows.simplexLeastRow.make) = true:=by rw [kp27];rfl
theorem simplexLeast_k28:(Rows.simplexLeastRow.kinds == (if Rows.simplexLeastRow.domain.isEmpty then [] else Try.f5.params.toList.map fun t=>match Try.prog.underlying t with | some (.int k)=>some k | _=>none)) = true:=by kernel_rfl
theorem simplexLeast_k29:(Rows.simplexLeastRow.pinned == Rows.simplexLeastRow.pinnedBy) = true:=by kernel_rfl
theorem simplexLeast_k30:(Rows.simplexLeastRow.veiled == (Try.f5.params.toList ++ Rows.simplexLeastSpec.plain.varTypes Try.prog ++ Try.f5.resultTypes.toList).any (Try.prog.veiledRec ·)) = true:=by kernel_rfl
theorem simplexLeast_k31:Rows.simplexLeastRow.veiledFits Try.prog Try.f5.params.toList (Try.f5.params.toList ++ Rows.simplexLeastSpec.plain.varTypes Try.prog ++ Try.f5.resultTypes.toList) = true:=by kernel_rfl
theorem simplexLeast_facts:joinedFacts Try.prog 5 Try.f5 Rows.simplexLeastSpec Rows.simplexLeastRow = true:=(andK (andK (andK (andK (andK (andK (andK (andK (andK (andK (andK (andK (andK (andK (andK (andK (andK (andK (andK (andK (andK (andK (andK (andK (andK (andK (andK (andK (andK (andK (andK simplexLeast_k0 kp1) kp2) simplexLeast_k3) simplexLeast_k4) simplexLeast_k5) kp6) simplexLeast_k7) kp8) simplexLeast_k9) simplexLeast_k10) simplexLeast_k11) simplexLeast_k12) simplexLeast_k13) simplexLeast_k14) simplexLeast_k15) simplexLeast_k16) simplexLeast_k17) simplexLeast_k18) simplexLeast_k19) simplexLeast_k20) simplexLeast_k21) simplexLeast_k22) simplexLeast_k23) kp24) kp25) simplexLeast_k26) simplexLeast_k27) simplexLeast_k28) simplexLeast_k29) simplexLeast_k30) simplexLeast_k31)
theorem simplexLeast_n1:Try.prog.funcNamed Rows.simplexLeastRow.func = some 5:=by kernel_rfl
theorem simplexLeast_n3:Try.f5.isInstance Try.prog Rows.simplexLeastRow.origin Rows.simplexLeastRow.targs:=of_decide_eq_true (by kernel_rfl)
theorem simplexLeast_n4:Try.f5.isWrapper Try.prog Rows.simplexLeastRow.wrapper Rows.simplexLeastRow.mainSum:=by unfold Func.isWrapper;first | (rw [if_pos (by decide +kernel)];kernel_rfl) | (rw [if_neg (by decide +kernel)];exact ⟨rfl,rfl⟩)
theorem simplexLeast_holds:Rows.SimplexLeastSaid :=
 OpenClaim.holds_of_wide 5 Try.f5 rfl rfl rfl rfl rfl rfl rfl ⟨rfl,rfl,rfl,rfl,rfl⟩ rfl rfl rfl rfl rfl simplexLeast_n1 Try.func5 simplexLeast_facts simplexLeast_n3 simplexLeast_n4
  (fun os started H enc _=>simplexLeast_lifted os started H enc)
#print axioms simplexLeast_holds
end Go.Proofs.Ytncgbjhojbnecaa
