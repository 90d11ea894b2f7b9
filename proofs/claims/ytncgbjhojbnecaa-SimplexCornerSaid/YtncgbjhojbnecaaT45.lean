/- The numbers of a basis fit the problem and are 0 elsewhere, and a basis that may not be, whose columns hang on one another, or whose numbers do not fit, has none: the law SimplexCorner is true of every input, and leaves it as it was; no conditions. -/
import Derived.WalkKit
import Derived.ProofKit
import Derived.OpenShut
import Derived.ShutString
import Derived.ChangeOld
import Derived.Below
import Derived.Test.YtncgbjhojbnecaaEF
import Derived.Test.YtncgbjhojbnecaaK0
import Derived.Test.YtncgbjhojbnecaaSF
set_option linter.unusedSimpArgs false
set_option linter.unusedVariables false
set_option linter.unnecessarySimpa false
set_option maxRecDepth 100000
set_option maxHeartbeats 4000000
namespace Go.Proofs.Ytncgbjhojbnecaa
open Go Go.Am Go.Proofs Go.RowKit Go.Off
open Go.ChangeShapes Go.WideShapes Go.ChangeAt
open Go.ChangeMaps (open_string shut_string)
set_option maxRecDepth 100000 in
theorem simplexCorner_lifted (os:Os) (started:os.Started) (H:Type) (enc:TypeId × Value -> H) :
  ReturnsInHanded {} Try.checked os 8 .any (Rows.simplexCornerSpec.pre6 enc Try.prog Try.f8 Rows.simplexCornerRow.domain false) (Rows.simplexCornerSpec.post enc Try.prog Try.f8 false true false false):=by
 refine returnsInHanded_of_change (C:=Try.checked) ownK started (by kernel_rfl) Try.func8
  (ChangeSpec.witness6 (enc:=enc) (C:=Try.checked) false ⟨#[],#[.agg #[.slice none 0 0,.slice none 0 0,.slice none 0 0],.slice none 0 0],[]⟩ 8 (by kernel_rfl) (by kernel_rfl) (by kernel_rfl) (by kernel_rfl)) ?_
 intro W base args ds gs before hval0 hW hcnd _
 have hval:∀ (j:Nat) t v,Try.f8.params[j]? = some t -> args[j]? = some v -> Value.okWide Try.prog W .any base t v:=hval0
 have hW':=hW
 obtain ⟨p,q,hA0,hV,rfl,hfz,hnd⟩:=hW
 have hA:DataW.TrodAll enc Try.prog W 0 (fun _=>true) true Try.f8.params.toList args.toList ds p:=hA0
 rw [Try.params8] at hA hval
 obtain ⟨v0,vs0,d0,ds0,p0,q0,hargs,rfl,rfl,h0,r0⟩:=trodAll_cons hA
 obtain ⟨v1,vs1,d1,ds1,p1,q1,rfl,rfl,rfl,h1,r1⟩:=trodAll_cons r0
 obtain ⟨rfl,rfl,rfl⟩:=trodAll_nil r1
 obtain rfl:args = #[v0,v1]:=by cases args;simp_all
 obtain ⟨rfl,rfl⟩:=trodVars_none hV
 obtain ⟨cs0,rfl⟩:∃ cs,v0 = .agg cs:=by
  have h:=hval 0 25 v0 rfl rfl
  unfold Value.okWide at h
  rw [Try.underlying25] at h
  exact h.imp fun cs hc=>hc.1
 have lt0:∀ x ∈ p0,x.block < W.heap.size:=by obtain ⟨m,hm⟩:=h0;exact DataW.trod_lt m _ _ _ hm
 obtain ⟨x1,l1,c1,rfl⟩:=okWide_slice Try.underlying28 (hval 1 28 v1 rfl rfl)
 have lt1:∀ x ∈ p1,x.block < W.heap.size:=by obtain ⟨m,hm⟩:=h1;exact DataW.trod_lt m _ _ _ hm
 obtain ⟨y0,⟨a0,e0⟩,w0⟩:=avr_agg rd_problem h0
 obtain ⟨y1,⟨a1,b1,e1⟩,w1⟩:=avr_cell rd_ints h1 rfl
 subst e0
 cases e1
 clear hA0 hval0
 refine (law_calls (simplexCorner_C a0 a1 b1.1 b1.2) (fun g l hl=>by cases hl) (.cons w0 (.cons w1 .nil))).mono fun e W' ⟨he,bel⟩=>?_
 subst he
 exact ⟨_,rfl,_,_,_,[],_,[],hW',trodAll_mk1 (shut_bool Try.underlying4 _),(trodAll_cons_mk (Below.trod laidK (by kernel_rfl) (of_decide_eq_true (by kernel_rfl)) h0 bel lt0) (trodAll_cons_mk (Below.trod laidK (by kernel_rfl) (of_decide_eq_true (by kernel_rfl)) h1 bel lt1) trodAll_mk0)),rfl,bel.frame _,fun h=>by cases h⟩
theorem simplexCorner_k0:Rows.simplexCornerRow.wf (OpenSpec.ofChange Rows.simplexCornerSpec) = true:=by kernel_rfl
theorem simplexCorner_k3:Try.f8.params.all (Try.prog.readableRec ·) = true:=by kernel_rfl
theorem simplexCorner_k4:namedTie Try.prog Rows.simplexCornerRow.named Rows.simplexCornerSpec.vars = true:=by kernel_rfl
theorem simplexCorner_k5:(Rows.simplexCornerRow.stops == []) = true:=by kernel_rfl
theorem simplexCorner_k7:(Rows.simplexCornerRow.knobs == []) = true:=by kernel_rfl
theorem simplexCorner_k9:(Rows.simplexCornerRow.inPlace == Try.prog.inPlace 8) = true:=by kernel_rfl
theorem simplexCorner_k10:(Rows.simplexCornerRow.unfollowed == Try.prog.unfollowed 8) = true:=by kernel_rfl
theorem simplexCorner_k11:(Rows.simplexCornerRow.recurses == Try.prog.recurses 8) = true:=by kernel_rfl
theorem simplexCorner_k12:(Rows.simplexCornerRow.named == Try.prog.varsNamed 8) = true:=by kernel_rfl
theorem simplexCorner_k13:(Rows.simplexCornerRow.maps == (Try.f8.params.toList ++ Rows.simplexCornerSpec.plain.varTypes Try.prog).any (Try.prog.mapsRec ·)) = true:=by kernel_rfl
theorem simplexCorner_k14:(Rows.simplexCornerRow.ifaces == (Try.f8.params.toList ++ Rows.simplexCornerSpec.plain.varTypes Try.prog).any (Try.prog.ifacesRec ·)) = true:=by kernel_rfl
theorem simplexCorner_k15:(Rows.simplexCornerRow.mapsOut == Try.prog.mapsAmong Try.f8.resultTypes.toList) = true:=by kernel_rfl
theorem simplexCorner_k16:(Rows.simplexCornerRow.loops == (Try.f8.params.toList ++ Rows.simplexCornerSpec.plain.varTypes Try.prog).any (Try.prog.loopsFrom ·)) = true:=by kernel_rfl
theorem simplexCorner_k17:(Rows.simplexCornerRow.wideKeys == (Try.f8.params.toList ++ Rows.simplexCornerSpec.plain.varTypes Try.prog ++ Try.f8.resultTypes.toList).any (Try.prog.wideKeysFrom ·)) = true:=by kernel_rfl
theorem simplexCorner_k18:Rows.simplexCornerSpec.vars.all (Try.prog.varReadable ·) = true:=by kernel_rfl
theorem simplexCorner_k19:Try.f8.resultTypes.all (fun t=>Try.prog.readableRec t && decide (t < Try.prog.types.size)) = true:=by kernel_rfl
theorem simplexCorner_k20:(Rows.simplexCornerRow.ifacesOut == Try.f8.resultTypes.toList.any (Try.prog.ifacesRec ·)) = true:=by kernel_rfl
theorem simplexCorner_k21:(Rows.simplexCornerRow.loopsOut == Try.f8.resultTypes.toList.any (Try.prog.loopsFrom ·)) = true:=by kernel_rfl
theorem simplexCorner_k22:(Rows.simplexCornerRow.plainKeys == Try.prog.plainKeys) = true:=by rw [kp22];rfl
theorem simplexCorner_k23:Rows.simplexCornerRow.shortTexts.isNone = true:=by kernel_rfl
theorem simplexCorner_k26:(Rows.simplexCornerRow.lifted == Try.prog.liftsFinal) = true:=by rw [kp26];rfl
theorem simplexCorner_k27:(Try.prog.make == some Rows.simplexCornerRow.make) = true:=by rw [kp27];rfl
theorem simplexCorner_k28:(Rows.simplexCornerRow.kinds == (if Rows.simplexCornerRow.domain.isEmpty then [] else Try.f8.params.toList.map fun t=>match Try.prog.underlying t with | some (.int k)=>some k | _=>none)) = true:=by kernel_rfl
theorem simplexCorner_k29:(Rows.simplexCornerRow.pinned == Rows.simplexCornerRow.pinnedBy) = true:=by kernel_rfl
theorem simplexCorner_k30:(Rows.simplexCornerRow.veiled == (Try.f8.params.toList ++ Rows.simplexCornerSpec.plain.varTypes Try.prog ++ Try.f8.resultTypes.toList).any (Try.prog.veiledRec ·)) = true:=by kernel_rfl
theorem simplexCorner_k31:Rows.simplexCornerRow.veiledFits Try.prog Try.f8.params.toList (Try.f8.params.toList ++ Rows.simplexCornerSpec.plain.varTypes Try.prog ++ Try.f8.resultTypes.toList) = true:=by kernel_rfl
theorem simplexCorner_facts:joinedFacts Try.prog 8 Try.f8 Rows.simplexCornerSpec Rows.simplexCornerRow = true:=(andK (andK (andK (andK (andK (andK (andK (andK (andK (andK (andK (andK (andK (andK (andK (andK (andK (andK (andK (andK (andK (andK (andK (andK (andK (andK (andK (andK (andK (andK (andK simplexCorner_k0 kp1) kp2) simplexCorner_k3) simplexCorner_k4) simplexCorner_k5) kp6) simplexCorner_k7) kp8) simplexCorner_k9) simplexCorner_k10) simplexCorner_k11) simplexCorner_k12) simplexCorner_k13) simplexCorner_k14) simplexCorner_k15) simplexCorner_k16) simplexCorner_k17) simplexCorner_k18) simplexCorner_k19) simplexCorner_k20) simplexCorner_k21) simplexCorner_k22) simplexCorner_k23) kp24) kp25) simplexCorner_k26) simplexCorner_k27) simplexCorner_k28) simplexCorner_k29) simplexCorner_k30) simplexCorner_k31)
theorem simplexCorner_n1:Try.prog.funcNamed Rows.simplexCornerRow.func = some 8:=by kernel_rfl
theorem simplexCorner_n3:Try.f8.isInstance Try.prog Rows.simplexCornerRow.origin Rows.simplexCornerRow.targs:=of_decide_eq_true (by kernel_rfl)
theorem simplexCorner_n4:Try.f8.isWrapper Try.prog Rows.simplexCornerRow.wrapper Rows.simplexCornerRow.mainSum:=by unfold Func.isWrapper;first | (rw [if_pos (by decide +kernel)];kernel_rfl) | (rw [if_neg (by decide +kernel)];exact ⟨rfl,rfl⟩)
theorem simplexCorner_holds:Rows.SimplexCornerSaid :=
 OpenClaim.holds_of_wide 8 Try.f8 rfl rfl rfl rfl rfl rfl rfl ⟨rfl,rfl,rfl,rfl,rfl⟩ rfl rfl rfl rfl rfl simplexCorner_n1 Try.func8 simplexCorner_facts simplexCorner_n3 simplexCorner_n4
  (fun os started H enc _=>simplexCorner_lifted os started H enc)
#print axioms simplexCorner_holds
end Go.Proofs.Ytncgbjhojbnecaa
