/- PriceBest holds. -/
import Derived.WalkKit
import Derived.ProofKit
import Derived.OpenShut
import Derived.ShutString
import Derived.ChangeOld
import Derived.Below
import Derived.Test.YtncgbjhojbnecaaGreatU16
import Derived.Test.YtncgbjhojbnecaaGreatUX
set_option linter.unusedSimpArgs false
set_option linter.unusedVariables false
set_option linter.unnecessarySimpa false
set_option maxRecDepth 100000
set_option maxHeartbeats 4000000
open Bool renaming false -> TA, true -> SA
open Option renaming none -> QA, some -> PA
namespace Go.Proofs.YtncgbjhojbnecaaGreat
open Go Go.Am Go.Proofs Go.RowKit Go.Off
open Go.ChangeShapes Go.WideShapes Go.ChangeAt
open Go.ChangeMaps (open_string shut_string)
set_option maxRecDepth 100000 in
theorem priceBest_lifted (os:Os) (started:os.Started) (H:Type) (enc:TypeId × Value -> H) :
  ReturnsInHanded {} Tryz.checked os 7 .any (Rows.priceBestSpec.pre6 enc Tryz.prog Tryz.f7 Rows.priceBestRow.domain TA) (Rows.priceBestSpec.post enc Tryz.prog Tryz.f7 TA SA TA TA):=by
 refine returnsInHanded_of_change (C:=Tryz.checked) ownK started (by kernel_rfl) Tryz.func7
  (ChangeSpec.witness6 (enc:=enc) (C:=Tryz.checked) TA ⟨#[],#[.agg #[.slice QA 0 0,.slice QA 0 0,.slice QA 0 0],.agg #[.slice QA 0 0],.int .i64 0,.slice QA 0 0],[]⟩ 8 (by kernel_rfl) (by kernel_rfl) (by kernel_rfl) (by kernel_rfl)) ?_
 intro W base args ds gs before hval0 hW hcnd _
 have hval:∀ (j:Nat) t v,Tryz.f7.params[j]? = PA t -> args[j]? = PA v -> Value.okWide Tryz.prog W .any base t v:=hval0
 have hW':=hW
 obtain ⟨p,q,hA0,hV,rfl,hfz,hnd⟩:=hW
 have hA:DataW.TrodAll enc Tryz.prog W 0 (fun _=>SA) SA Tryz.f7.params.toList args.toList ds p:=hA0
 rw [Tryz.params7] at hA hval
 obtain ⟨v0,vs0,d0,ds0,p0,q0,hargs,rfl,rfl,h0,r0⟩:=trodAll_cons hA
 obtain ⟨v1,vs1,d1,ds1,p1,q1,rfl,rfl,rfl,h1,r1⟩:=trodAll_cons r0
 obtain ⟨v2,vs2,d2,ds2,p2,q2,rfl,rfl,rfl,h2,r2⟩:=trodAll_cons r1
 obtain ⟨v3,vs3,d3,ds3,p3,q3,rfl,rfl,rfl,h3,r3⟩:=trodAll_cons r2
 obtain ⟨rfl,rfl,rfl⟩:=trodAll_nil r3
 obtain rfl:args = #[v0,v1,v2,v3]:=by cases args;simp_all
 obtain ⟨rfl,rfl⟩:=trodVars_none hV
 obtain ⟨cs0,rfl⟩:∃ cs,v0 = .agg cs:=by
  have h:=hval 0 26 v0 rfl rfl
  unfold Value.okWide at h
  rw [Tryz.underlying26] at h
  exact h.imp fun cs hc=>hc.1
 have lt0:∀ x ∈ p0,x.block < W.heap.size:=by obtain ⟨m,hm⟩:=h0;exact DataW.trod_lt m _ _ _ hm
 obtain ⟨cs1,rfl⟩:∃ cs,v1 = .agg cs:=by
  have h:=hval 1 29 v1 rfl rfl
  unfold Value.okWide at h
  rw [Tryz.underlying29] at h
  exact h.imp fun cs hc=>hc.1
 have lt1:∀ x ∈ p1,x.block < W.heap.size:=by obtain ⟨m,hm⟩:=h1;exact DataW.trod_lt m _ _ _ hm
 obtain ⟨z2,rfl,rfl,rfl,wz2⟩:=open_int Tryz.underlying3 (hval 2 3 v2 rfl rfl) h2
 obtain ⟨x3,l3,c3,rfl⟩:=okWide_slice Tryz.underlying23 (hval 3 23 v3 rfl rfl)
 have lt3:∀ x ∈ p3,x.block < W.heap.size:=by obtain ⟨m,hm⟩:=h3;exact DataW.trod_lt m _ _ _ hm
 obtain ⟨y0,⟨a0,e0⟩,w0⟩:=zU N5 h0
 obtain ⟨y1,⟨a1,b1,e1⟩,w1⟩:=zU L5 h1
 have w2:AVR W (fun _=>False) [] bE (.one (.c (.val (.int .i64 z2)))) (.int .i64 z2):=.one _ _ (.c _ _ (.val _ rfl))
 have b2 : -9223372036854775808 <= z2 /\ z2 <= 9223372036854775807:=by simpa [Lit.wf,IntKind.min,IntKind.max,IntKind.signed,IntKind.bits] using wz2
 obtain ⟨y3,⟨a3,e3⟩,w3⟩:=VW JT h3 rfl
 subst e0
 subst e1
 cases e3
 clear hA0 hval0
 refine (KS (priceBest_C a0 a1 z2 a3 b1.2 b1.1) (fun g l hl=>by cases hl) (.cons w0 (.cons w1 (.cons w2 (.cons w3 .nil))))).mono fun e W' ⟨he,bel⟩=>?_
 subst he
 exact ⟨_,rfl,_,_,_,[],_,[],hW',trodAll_mk1 (shut_bool Tryz.underlying4 _),(trodAll_cons_mk (Below.trod eW (by kernel_rfl) (of_decide_eq_true (by kernel_rfl)) h0 bel lt0) (trodAll_cons_mk (Below.trod eW (by kernel_rfl) (of_decide_eq_true (by kernel_rfl)) h1 bel lt1) (trodAll_cons_mk (shut_int Tryz.underlying3 wz2) (trodAll_cons_mk (Below.trod eW (by kernel_rfl) (of_decide_eq_true (by kernel_rfl)) h3 bel lt3) trodAll_mk0)))),rfl,bel.frame _,fun h=>by cases h⟩
theorem priceBest_k0:Rows.priceBestRow.wf (OpenSpec.ofChange Rows.priceBestSpec) = SA:=by kernel_rfl
theorem priceBest_k3:Tryz.f7.params.all (Tryz.prog.readableRec ·) = SA:=by kernel_rfl
theorem priceBest_k4:namedTie Tryz.prog Rows.priceBestRow.named Rows.priceBestSpec.vars = SA:=by kernel_rfl
theorem priceBest_k5:(Rows.priceBestRow.stops == []) = SA:=by kernel_rfl
theorem priceBest_k7:(Rows.priceBestRow.knobs == []) = SA:=by kernel_rfl
theorem priceBest_k9:(Rows.priceBestRow.inPlace == Tryz.prog.inPlace 7) = SA:=by kernel_rfl
theorem priceBest_k10:(Rows.priceBestRow.unfollowed == Tryz.prog.unfollowed 7) = SA:=by kernel_rfl
theorem priceBest_k11:(Rows.priceBestRow.recurses == Tryz.prog.recurses 7) = SA:=by kernel_rfl
theorem priceBest_k12:(Rows.priceBestRow.named == Tryz.prog.varsNamed 7) = SA:=by kernel_rfl
theorem priceBest_k13:(Rows.priceBestRow.maps == (Tryz.f7.params.toList ++ Rows.priceBestSpec.plain.varTypes Tryz.prog).any (Tryz.prog.mapsRec ·)) = SA:=by kernel_rfl
theorem priceBest_k14:(Rows.priceBestRow.ifaces == (Tryz.f7.params.toList ++ Rows.priceBestSpec.plain.varTypes Tryz.prog).any (Tryz.prog.ifacesRec ·)) = SA:=by kernel_rfl
theorem priceBest_k15:(Rows.priceBestRow.mapsOut == Tryz.prog.mapsAmong Tryz.f7.resultTypes.toList) = SA:=by kernel_rfl
theorem priceBest_k16:(Rows.priceBestRow.loops == (Tryz.f7.params.toList ++ Rows.priceBestSpec.plain.varTypes Tryz.prog).any (Tryz.prog.loopsFrom ·)) = SA:=by kernel_rfl
theorem priceBest_k17:(Rows.priceBestRow.wideKeys == (Tryz.f7.params.toList ++ Rows.priceBestSpec.plain.varTypes Tryz.prog ++ Tryz.f7.resultTypes.toList).any (Tryz.prog.wideKeysFrom ·)) = SA:=by kernel_rfl
theorem priceBest_k18:Rows.priceBestSpec.vars.all (Tryz.prog.varReadable ·) = SA:=by kernel_rfl
theorem priceBest_k19:Tryz.f7.resultTypes.all (fun t=>Tryz.prog.readableRec t && decide (t < Tryz.prog.types.size)) = SA:=by kernel_rfl
theorem priceBest_k20:(Rows.priceBestRow.ifacesOut == Tryz.f7.resultTypes.toList.any (Tryz.prog.ifacesRec ·)) = SA:=by kernel_rfl
theorem priceBest_k21:(Rows.priceBestRow.loopsOut == Tryz.f7.resultTypes.toList.any (Tryz.prog.loopsFrom ·)) = SA:=by kernel_rfl
theorem priceBest_k22:(Rows.priceBestRow.plainKeys == Tryz.prog.plainKeys) = SA:=by rw [kp22];rfl
theorem priceBest_k23:Rows.priceBestRow.shortTexts.isNone = SA:=by kernel_rfl
theorem priceBest_k26:(Rows.priceBestRow.lifted == Tryz.prog.liftsFinal) = SA:=by rw [kp26];rfl
theorem priceBest_k27:(Tryz.prog.make == PA Rows.priceBestRow.make) = SA:=by rw [kp27];rfl
theorem priceBest_k28:(Rows.priceBestRow.kinds == (if Rows.priceBestRow.domain.isEmpty then [] else Tryz.f7.params.toList.map fun t=>match Tryz.prog.underlying t with | some (.int k)=>PA k | _=>QA)) = SA:=by kernel_rfl
theorem priceBest_k29:(Rows.priceBestRow.pinned == Rows.priceBestRow.pinnedBy) = SA:=by kernel_rfl
theorem priceBest_k30:(Rows.priceBestRow.veiled == (Tryz.f7.params.toList ++ Rows.priceBestSpec.plain.varTypes Tryz.prog ++ Tryz.f7.resultTypes.toList).any (Tryz.prog.veiledRec ·)) = SA:=by kernel_rfl
theorem priceBest_k31:Rows.priceBestRow.veiledFits Tryz.prog Tryz.f7.params.toList (Tryz.f7.params.toList ++ Rows.priceBestSpec.plain.varTypes Tryz.prog ++ Tryz.f7.resultTypes.toList) = SA:=by kernel_rfl
theorem priceBest_facts:joinedFacts Tryz.prog 7 Tryz.f7 Rows.priceBestSpec Rows.priceBestRow = SA:=(eD (eD (eD (eD (eD (eD (eD (eD (eD (eD (eD (eD (eD (eD (eD (eD (eD (eD (eD (eD (eD (eD (eD (eD (eD (eD (eD (eD (eD (eD (eD priceBest_k0 kp1) kp2) priceBest_k3) priceBest_k4) priceBest_k5) kp6) priceBest_k7) kp8) priceBest_k9) priceBest_k10) priceBest_k11) priceBest_k12) priceBest_k13) priceBest_k14) priceBest_k15) priceBest_k16) priceBest_k17) priceBest_k18) priceBest_k19) priceBest_k20) priceBest_k21) priceBest_k22) priceBest_k23) kp24) kp25) priceBest_k26) priceBest_k27) priceBest_k28) priceBest_k29) priceBest_k30) priceBest_k31)
theorem priceBest_n1:Tryz.prog.funcNamed Rows.priceBestRow.func = PA 7:=by kernel_rfl
theorem priceBest_n3:Tryz.f7.isInstance Tryz.prog Rows.priceBestRow.origin Rows.priceBestRow.targs:=of_decide_eq_true (by kernel_rfl)
theorem priceBest_n4:Tryz.f7.isWrapper Tryz.prog Rows.priceBestRow.wrapper Rows.priceBestRow.mainSum:=by unfold Func.isWrapper;first | (rw [if_pos (by decide +kernel)];kernel_rfl) | (rw [if_neg (by decide +kernel)];exact ⟨rfl,rfl⟩)
theorem priceBest_holds:Rows.PriceBestSaid :=
 OpenClaim.holds_of_wide 7 Tryz.f7 rfl rfl rfl rfl rfl rfl rfl ⟨rfl,rfl,rfl,rfl,rfl⟩ rfl rfl rfl rfl rfl priceBest_n1 Tryz.func7 priceBest_facts priceBest_n3 priceBest_n4
  (fun os started H enc _=>priceBest_lifted os started H enc)
#print axioms priceBest_holds
end Go.Proofs.YtncgbjhojbnecaaGreat
