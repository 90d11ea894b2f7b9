/- SimplexNever holds, of arguments of bulk at most 1048576. -/
import Derived.WalkKit
import Derived.ProofKit
import Derived.OpenShut
import Derived.ShutString
import Derived.ChangeOld
import Derived.Below
import Derived.JoinedCond
import Derived.Test.YtncgbjhojbnecaaEF
import Derived.Test.YtncgbjhojbnecaaEU
import Derived.Test.YtncgbjhojbnecaaK0
import Derived.Test.YtncgbjhojbnecaaSN
set_option linter.unusedSimpArgs false
set_option linter.unusedVariables false
set_option linter.unnecessarySimpa false
set_option maxRecDepth 100000
set_option maxHeartbeats 4000000
namespace Go.Proofs.Ytncgbjhojbnecaa
open Go Go.Am Go.Proofs Go.RowKit Go.Off
open Go.ChangeShapes Go.WideShapes Go.ChangeAt
open Go.ChangeMaps (open_string shut_string)
set_option maxRecDepth 100000 in
theorem simplexNever_lifted (os:Os) (started:os.Started) (H:Type) (enc:TypeId × Value -> H) (FI:Stop.Interp) :
  ReturnsInHanded {} Try.checked os 7 .any ((Rows.OpenSpec.upto Rows.simplexNeverSpec).pre6 enc Try.prog Try.f7 Rows.simplexNeverUptoRow.domain false) (((Rows.OpenSpec.upto Rows.simplexNeverSpec).at FI).post enc Try.prog Try.f7 false true false false):=by
 refine returnsInHanded_of_cond (C:=Try.checked) (s:=Rows.OpenSpec.upto Rows.simplexNeverSpec) (k:=Rows.uptoSmall) rfl ownK started (by kernel_rfl) Try.func7
  (OpenSpec.witness (enc:=enc) (C:=Try.checked) (s:=Rows.OpenSpec.upto Rows.simplexNeverSpec) (k:=Rows.uptoSmall) rfl false ⟨#[],#[.agg #[.slice none 0 0,.slice none 0 0,.slice none 0 0],.slice none 0 0],[]⟩ 8 (by kernel_rfl) (by kernel_rfl) (by kernel_rfl)
   (x:=([.agg [.nil,.nil,.nil],.nil],[],[])) (by kernel_rfl) rfl (by kernel_rfl)) ?_
 intro W base args ds gs before hval0 hW hcnd hk _
 have hval:∀ (j:Nat) t v,Try.f7.params[j]? = some t -> args[j]? = some v -> Value.okWide Try.prog W .any base t v:=hval0
 have hW':=hW
 obtain ⟨p,q,hA0,hV,rfl,hfz,hnd⟩:=hW
 have hA:DataW.TrodAll enc Try.prog W 0 (fun _=>true) true Try.f7.params.toList args.toList ds p:=hA0
 rw [Try.params7] at hA hval
 obtain ⟨v0,vs0,d0,ds0,p0,q0,hargs,rfl,rfl,h0,r0⟩:=trodAll_cons hA
 obtain ⟨v1,vs1,d1,ds1,p1,q1,rfl,rfl,rfl,h1,r1⟩:=trodAll_cons r0
 obtain ⟨rfl,rfl,rfl⟩:=trodAll_nil r1
 obtain rfl:args = #[v0,v1]:=by cases args;simp_all
 obtain ⟨rfl,rfl⟩:=trodVars_none hV
 obtain ⟨cs0,rfl⟩:∃ cs,v0 = .agg cs:=by
  have h:=hval 0 25 v0 rfl rfl
  unfold Value.okWide at h
  rw [Try.underlying25] at h
  exact h.imp fun cs hc=>hc.1
 have lt0:∀ x ∈ p0,x.block < W.heap.size:=by obtain ⟨m,hm⟩:=h0;exact DataW.trod_lt m _ _ _ hm
 obtain ⟨x1,l1,c1,rfl⟩:=okWide_slice Try.underlying23 (hval 1 23 v1 rfl rfl)
 have lt1:∀ x ∈ p1,x.block < W.heap.size:=by obtain ⟨m,hm⟩:=h1;exact DataW.trod_lt m _ _ _ hm
 obtain ⟨y0,⟨a0,e0⟩,w0⟩:=avr_agg rd_problem h0
 obtain ⟨y1,⟨a1,b1,e1⟩,w1⟩:=avr_cellB rb_vec h1 rfl
 subst e0
 cases e1
 clear hA0 hval0
 refine (law_calls (simplexNever_C a0 a1 (Nat.le_trans b1.1 (Nat.le_trans (bulk_of hk (by simp)) (by decide))) (fun r hr=>(b1.2 r hr).mono (bulk_of hk (by simp)))) (fun g l hl=>by cases hl) (.cons w0 (.cons w1 .nil))).mono fun e W' ⟨he,bel⟩=>?_
 subst he
 exact ⟨_,rfl,_,_,_,[],_,[],hW',trodAll_mk1 (shut_bool Try.underlying4 _),(trodAll_cons_mk (Below.trod laidK (by kernel_rfl) (of_decide_eq_true (by kernel_rfl)) h0 bel lt0) (trodAll_cons_mk (Below.trod laidK (by kernel_rfl) (of_decide_eq_true (by kernel_rfl)) h1 bel lt1) trodAll_mk0)),rfl,bel.frame _,fun h=>by cases h⟩
theorem simplexNever_k0:Rows.simplexNeverUptoRow.wf (OpenSpec.ofChange Rows.simplexNeverSpec) = true:=by kernel_rfl
theorem simplexNever_k3:Try.f7.params.all (Try.prog.readableRec ·) = true:=by kernel_rfl
theorem simplexNever_k4:namedTie Try.prog Rows.simplexNeverUptoRow.named Rows.simplexNeverSpec.vars = true:=by kernel_rfl
theorem simplexNever_k5:(Rows.simplexNeverUptoRow.stops == []) = true:=by kernel_rfl
theorem simplexNever_k7:(Rows.simplexNeverUptoRow.knobs == []) = true:=by kernel_rfl
theorem simplexNever_k9:(Rows.simplexNeverUptoRow.inPlace == Try.prog.inPlace 7) = true:=by kernel_rfl
theorem simplexNever_k10:(Rows.simplexNeverUptoRow.unfollowed == Try.prog.unfollowed 7) = true:=by kernel_rfl
theorem simplexNever_k11:(Rows.simplexNeverUptoRow.recurses == Try.prog.recurses 7) = true:=by kernel_rfl
theorem simplexNever_k12:(Rows.simplexNeverUptoRow.named == Try.prog.varsNamed 7) = true:=by kernel_rfl
theorem simplexNever_k13:(Rows.simplexNeverUptoRow.maps == (Try.f7.params.toList ++ Rows.simplexNeverSpec.plain.varTypes Try.prog).any (Try.prog.mapsRec ·)) = true:=by kernel_rfl
theorem simplexNever_k14:(Rows.simplexNeverUptoRow.ifaces == (Try.f7.params.toList ++ Rows.simplexNeverSpec.plain.varTypes Try.prog).any (Try.prog.ifacesRec ·)) = true:=by kernel_rfl
theorem simplexNever_k15:(Rows.simplexNeverUptoRow.mapsOut == Try.prog.mapsAmong Try.f7.resultTypes.toList) = true:=by kernel_rfl
theorem simplexNever_k16:(Rows.simplexNeverUptoRow.loops == (Try.f7.params.toList ++ Rows.simplexNeverSpec.plain.varTypes Try.prog).any (Try.prog.loopsFrom ·)) = true:=by kernel_rfl
theorem simplexNever_k17:(Rows.simplexNeverUptoRow.wideKeys == (Try.f7.params.toList ++ Rows.simplexNeverSpec.plain.varTypes Try.prog ++ Try.f7.resultTypes.toList).any (Try.prog.wideKeysFrom ·)) = true:=by kernel_rfl
theorem simplexNever_k18:Rows.simplexNeverSpec.vars.all (Try.prog.varReadable ·) = true:=by kernel_rfl
theorem simplexNever_k19:Try.f7.resultTypes.all (fun t=>Try.prog.readableRec t && decide (t < Try.prog.types.size)) = true:=by kernel_rfl
theorem simplexNever_k20:(Rows.simplexNeverUptoRow.ifacesOut == Try.f7.resultTypes.toList.any (Try.prog.ifacesRec ·)) = true:=by kernel_rfl
theorem simplexNever_k21:(Rows.simplexNeverUptoRow.loopsOut == Try.f7.resultTypes.toList.any (Try.prog.loopsFrom ·)) = true:=by kernel_rfl
theorem simplexNever_k22:(Rows.simplexNeverUptoRow.plainKeys == Try.prog.plainKeys) = true:=by rw [kp22];rfl
theorem simplexNever_k23:Rows.simplexNeverUptoRow.shortTexts.isNone = true:=by kernel_rfl
theorem simplexNever_k26:(Rows.simplexNeverUptoRow.lifted == Try.prog.liftsFinal) = true:=by rw [kp26];rfl
theorem simplexNever_k27:(Try.prog.make == some Rows.simplexNeverUptoRow.make) = true:=by rw [kp27];rfl
theorem simplexNever_k28:(Rows.simplexNeverUptoRow.kinds == (if Rows.simplexNeverUptoRow.domain.isEmpty then [] else Try.f7.params.toList.map fun t=>match Try.prog.underlying t with | some (.int k)=>some k | _=>none)) = true:=by kernel_rfl
theorem simplexNever_k29:(Rows.simplexNeverUptoRow.pinned == Rows.simplexNeverUptoRow.pinnedBy) = true:=by kernel_rfl
theorem simplexNever_k30:(Rows.simplexNeverUptoRow.veiled == (Try.f7.params.toList ++ Rows.simplexNeverSpec.plain.varTypes Try.prog ++ Try.f7.resultTypes.toList).any (Try.prog.veiledRec ·)) = true:=by kernel_rfl
theorem simplexNever_k31:Rows.simplexNeverUptoRow.veiledFits Try.prog Try.f7.params.toList (Try.f7.params.toList ++ Rows.simplexNeverSpec.plain.varTypes Try.prog ++ Try.f7.resultTypes.toList) = true:=by kernel_rfl
theorem simplexNever_facts:joinedFacts Try.prog 7 Try.f7 Rows.simplexNeverSpec Rows.simplexNeverUptoRow = true:=(andK (andK (andK (andK (andK (andK (andK (andK (andK (andK (andK (andK (andK (andK (andK (andK (andK (andK (andK (andK (andK (andK (andK (andK (andK (andK (andK (andK (andK (andK (andK simplexNever_k0 kp1) kp2) simplexNever_k3) simplexNever_k4) simplexNever_k5) kp6) simplexNever_k7) kp8) simplexNever_k9) simplexNever_k10) simplexNever_k11) simplexNever_k12) simplexNever_k13) simplexNever_k14) simplexNever_k15) simplexNever_k16) simplexNever_k17) simplexNever_k18) simplexNever_k19) simplexNever_k20) simplexNever_k21) simplexNever_k22) simplexNever_k23) kp24) kp25) simplexNever_k26) simplexNever_k27) simplexNever_k28) simplexNever_k29) simplexNever_k30) simplexNever_k31)
theorem simplexNever_n1:Try.prog.funcNamed Rows.simplexNeverUptoRow.func = some 7:=by kernel_rfl
theorem simplexNever_n3:Try.f7.isInstance Try.prog Rows.simplexNeverUptoRow.origin Rows.simplexNeverUptoRow.targs:=of_decide_eq_true (by kernel_rfl)
theorem simplexNever_n4:Try.f7.isWrapper Try.prog Rows.simplexNeverUptoRow.wrapper Rows.simplexNeverUptoRow.mainSum:=by unfold Func.isWrapper;first | (rw [if_pos (by decide +kernel)];kernel_rfl) | (rw [if_neg (by decide +kernel)];exact ⟨rfl,rfl⟩)
theorem simplexNever_holds:Rows.SimplexNeverUptoSaid :=
 OpenClaim.holds_of_cond 7 Try.f7 rfl rfl rfl rfl rfl rfl rfl ⟨rfl,rfl,rfl,rfl,rfl⟩ rfl rfl rfl rfl rfl simplexNever_n1 Try.func7 simplexNever_facts simplexNever_n3 simplexNever_n4
  (fun os started H enc _ FI=>simplexNever_lifted os started H enc FI)
#print axioms simplexNever_holds
end Go.Proofs.Ytncgbjhojbnecaa
