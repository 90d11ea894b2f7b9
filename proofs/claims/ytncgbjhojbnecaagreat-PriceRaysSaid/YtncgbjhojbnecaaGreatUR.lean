/- PriceRays holds. -/
import Derived.WalkKit
import Derived.ProofKit
import Derived.OpenShut
import Derived.ShutString
import Derived.ChangeOld
import Derived.Below
import Derived.Test.YtncgbjhojbnecaaGreatU16
import Derived.Test.YtncgbjhojbnecaaGreatUY
set_option linter.unusedSimpArgs false
set_option linter.unusedVariables false
set_option linter.unnecessarySimpa false
set_option maxRecDepth 100000
set_option maxHeartbeats 4000000
open Bool renaming false -> TA, true -> SA
open Option renaming none -> QA, some -> PA
namespace Go.Proofs.YtncgbjhojbnecaaGreat
open Go Go.Am Go.Proofs Go.RowKit Go.Off
open Go.ChangeShapes Go.WideShapes Go.ChangeAt
open Go.ChangeMaps (open_string shut_string)
set_option maxRecDepth 100000 in
theorem n9 (os:Os) (started:os.Started) (H:Type) (enc:TypeId × Value -> H) :
  ReturnsInHanded {} Tryz.checked os 8 .any (Rows.priceRaysSpec.pre6 enc Tryz.prog Tryz.f8 Rows.priceRaysRow.domain TA) (Rows.priceRaysSpec.post enc Tryz.prog Tryz.f8 TA SA TA TA):=by
 refine returnsInHanded_of_change (C:=Tryz.checked) ownK started (by kernel_rfl) Tryz.func8
  (ChangeSpec.witness6 (enc:=enc) (C:=Tryz.checked) TA ⟨#[],#[.agg #[.slice QA 0 0,.slice QA 0 0,.slice QA 0 0],.agg #[.slice QA 0 0],.int .i64 0,.slice QA 0 0,.slice QA 0 0],[]⟩ 8 (by kernel_rfl) (by kernel_rfl) (by kernel_rfl) (by kernel_rfl)) ?_
 intro W base args ds gs before hval0 hW hcnd _
 have hval:∀ (j:Nat) t v,Tryz.f8.params[j]? = PA t -> args[j]? = PA v -> Value.okWide Tryz.prog W .any base t v:=hval0
 have hW':=hW
 obtain ⟨p,q,hA0,hV,rfl,hfz,hnd⟩:=hW
 have hA:DataW.TrodAll enc Tryz.prog W 0 (fun _=>SA) SA Tryz.f8.params.toList args.toList ds p:=hA0
 rw [Tryz.params8] at hA hval
 obtain ⟨v0,vs0,d0,ds0,p0,q0,hargs,rfl,rfl,h0,r0⟩:=trodAll_cons hA
 obtain ⟨v1,vs1,d1,ds1,p1,q1,rfl,rfl,rfl,h1,r1⟩:=trodAll_cons r0
 obtain ⟨v2,vs2,d2,ds2,p2,q2,rfl,rfl,rfl,h2,r2⟩:=trodAll_cons r1
 obtain ⟨v3,vs3,d3,ds3,p3,q3,rfl,rfl,rfl,h3,r3⟩:=trodAll_cons r2
 obtain ⟨v4,vs4,d4,ds4,p4,q4,rfl,rfl,rfl,h4,r4⟩:=trodAll_cons r3
 obtain ⟨rfl,rfl,rfl⟩:=trodAll_nil r4
 obtain rfl:args = #[v0,v1,v2,v3,v4]:=by cases args;simp_all
 obtain ⟨rfl,rfl⟩:=trodVars_none hV
 obtain ⟨cs0,rfl⟩:∃ cs,v0 = .agg cs:=by
  have h:=hval 0 26 v0 rfl rfl
  unfold Value.okWide at h
  rw [Tryz.underlying26] at h
  exact h.imp fun cs hc=>hc.1
 have lt0:∀ x ∈ p0,x.block < W.heap.size:=by obtain ⟨m,hm⟩:=h0;exact DataW.trod_lt m _ _ _ hm
 obtain ⟨cs1,rfl⟩:∃ cs,v1 = .agg cs:=by
  have h:=hval 1 29 v1 rfl rfl
  unfold Value.okWide at h
  rw [Tryz.underlying29] at h
  exact h.imp fun cs hc=>hc.1
 have lt1:∀ x ∈ p1,x.block < W.heap.size:=by obtain ⟨m,hm⟩:=h1;exact DataW.trod_lt m _ _ _ hm
 obtain ⟨z2,rfl,rfl,rfl,wz2⟩:=open_int Tryz.underlying3 (hval 2 3 v2 rfl rfl) h2
 obtain ⟨x3,l3,c3,rfl⟩:=okWide_slice Tryz.underlying23 (hval 3 23 v3 rfl rfl)
 have lt3:∀ x ∈ p3,x.block < W.heap.size:=by obtain ⟨m,hm⟩:=h3;exact DataW.trod_lt m _ _ _ hm
 obtain ⟨x4,l4,c4,rfl⟩:=okWide_slice Tryz.underlying23 (hval 4 23 v4 rfl rfl)
 have lt4:∀ x ∈ p4,x.block < W.heap.size:=by obtain ⟨m,hm⟩:=h4;exact DataW.trod_lt m _ _ _ hm
 obtain ⟨y0,⟨a0,e0⟩,w0⟩:=avr_agg rd_model h0
 obtain ⟨y1,⟨a1,b1,e1⟩,w1⟩:=avr_agg rd_notes h1
 have w2:AVR W (fun _=>False) [] bE (.one (.c (.val (.int .i64 z2)))) (.int .i64 z2):=.one _ _ (.c _ _ (.val _ rfl))
 have b2 : -9223372036854775808 <= z2 /\ z2 <= 9223372036854775807:=by simpa [Lit.wf,IntKind.min,IntKind.max,IntKind.signed,IntKind.bits] using wz2
 obtain ⟨y3,⟨a3,e3⟩,w3⟩:=avr_cell JT h3 rfl
 obtain ⟨y4,⟨a4,e4⟩,w4⟩:=avr_cell JT h4 rfl
 subst e0
 subst e1
 cases e3
 cases e4
 clear hA0 hval0
 refine (law_calls (priceRays_C a0 a1 z2 a3 a4 b1.2 b1.1) (fun g l hl=>by cases hl) (.cons w0 (.cons w1 (.cons w2 (.cons w3 (.cons w4 .nil)))))).mono fun e W' ⟨he,bel⟩=>?_
 subst he
 exact ⟨_,rfl,_,_,_,[],_,[],hW',trodAll_mk1 (shut_bool Tryz.underlying4 _),(trodAll_cons_mk (Below.trod laidK (by kernel_rfl) (of_decide_eq_true (by kernel_rfl)) h0 bel lt0) (trodAll_cons_mk (Below.trod laidK (by kernel_rfl) (of_decide_eq_true (by kernel_rfl)) h1 bel lt1) (trodAll_cons_mk (shut_int Tryz.underlying3 wz2) (trodAll_cons_mk (Below.trod laidK (by kernel_rfl) (of_decide_eq_true (by kernel_rfl)) h3 bel lt3) (trodAll_cons_mk (Below.trod laidK (by kernel_rfl) (of_decide_eq_true (by kernel_rfl)) h4 bel lt4) trodAll_mk0))))),rfl,bel.frame _,fun h=>by cases h⟩
theorem priceRays_k0:Rows.priceRaysRow.wf (OpenSpec.ofChange Rows.priceRaysSpec) = SA:=by kernel_rfl
theorem priceRays_k3:Tryz.f8.params.all (Tryz.prog.readableRec ·) = SA:=by kernel_rfl
theorem priceRays_k4:namedTie Tryz.prog Rows.priceRaysRow.named Rows.priceRaysSpec.vars = SA:=by kernel_rfl
theorem priceRays_k5:(Rows.priceRaysRow.stops == []) = SA:=by kernel_rfl
theorem priceRays_k7:(Rows.priceRaysRow.knobs == []) = SA:=by kernel_rfl
theorem priceRays_k9:(Rows.priceRaysRow.inPlace == Tryz.prog.inPlace 8) = SA:=by kernel_rfl
theorem S9:(Rows.priceRaysRow.unfollowed == Tryz.prog.unfollowed 8) = SA:=by kernel_rfl
theorem R9:(Rows.priceRaysRow.recurses == Tryz.prog.recurses 8) = SA:=by kernel_rfl
theorem Q9:(Rows.priceRaysRow.named == Tryz.prog.varsNamed 8) = SA:=by kernel_rfl
theorem P9:(Rows.priceRaysRow.maps == (Tryz.f8.params.toList ++ Rows.priceRaysSpec.plain.varTypes Tryz.prog).any (Tryz.prog.mapsRec ·)) = SA:=by kernel_rfl
theorem O9:(Rows.priceRaysRow.ifaces == (Tryz.f8.params.toList ++ Rows.priceRaysSpec.plain.varTypes Tryz.prog).any (Tryz.prog.ifacesRec ·)) = SA:=by kernel_rfl
theorem N9:(Rows.priceRaysRow.mapsOut == Tryz.prog.mapsAmong Tryz.f8.resultTypes.toList) = SA:=by kernel_rfl
theorem M9:(Rows.priceRaysRow.loops == (Tryz.f8.params.toList ++ Rows.priceRaysSpec.plain.varTypes Tryz.prog).any (Tryz.prog.loopsFrom ·)) = SA:=by kernel_rfl
theorem L9:(Rows.priceRaysRow.wideKeys == (Tryz.f8.params.toList ++ Rows.priceRaysSpec.plain.varTypes Tryz.prog ++ Tryz.f8.resultTypes.toList).any (Tryz.prog.wideKeysFrom ·)) = SA:=by kernel_rfl
theorem K9:Rows.priceRaysSpec.vars.all (Tryz.prog.varReadable ·) = SA:=by kernel_rfl
theorem J9:Tryz.f8.resultTypes.all (fun t=>Tryz.prog.readableRec t && decide (t < Tryz.prog.types.size)) = SA:=by kernel_rfl
theorem I9:(Rows.priceRaysRow.ifacesOut == Tryz.f8.resultTypes.toList.any (Tryz.prog.ifacesRec ·)) = SA:=by kernel_rfl
theorem H9:(Rows.priceRaysRow.loopsOut == Tryz.f8.resultTypes.toList.any (Tryz.prog.loopsFrom ·)) = SA:=by kernel_rfl
theorem G9:(Rows.priceRaysRow.plainKeys == Tryz.prog.plainKeys) = SA:=by rw [kp22];rfl
theorem F9:Rows.priceRaysRow.shortTexts.isNone = SA:=by kernel_rfl
theorem E9:(Rows.priceRaysRow.lifted == Tryz.prog.liftsFinal) = SA:=by rw [kp26];rfl
theorem D9:(Tryz.prog.make == PA Rows.priceRaysRow.make) = SA:=by rw [kp27];rfl
theorem C9:(Rows.priceRaysRow.kinds == (if Rows.priceRaysRow.domain.isEmpty then [] else Tryz.f8.params.toList.map fun t=>match Tryz.prog.underlying t with | some (.int k)=>PA k | _=>QA)) = SA:=by kernel_rfl
theorem B9:(Rows.priceRaysRow.pinned == Rows.priceRaysRow.pinnedBy) = SA:=by kernel_rfl
theorem A9:(Rows.priceRaysRow.veiled == (Tryz.f8.params.toList ++ Rows.priceRaysSpec.plain.varTypes Tryz.prog ++ Tryz.f8.resultTypes.toList).any (Tryz.prog.veiledRec ·)) = SA:=by kernel_rfl
theorem z9:Rows.priceRaysRow.veiledFits Tryz.prog Tryz.f8.params.toList (Tryz.f8.params.toList ++ Rows.priceRaysSpec.plain.varTypes Tryz.prog ++ Tryz.f8.resultTypes.toList) = SA:=by kernel_rfl
theorem s9:joinedFacts Tryz.prog 8 Tryz.f8 Rows.priceRaysSpec Rows.priceRaysRow = SA:=(eD (eD (eD (eD (eD (eD (eD (eD (eD (eD (eD (eD (eD (eD (eD (eD (eD (eD (eD (eD (eD (eD (eD (eD (eD (eD (eD (eD (eD (eD (eD priceRays_k0 kp1) kp2) priceRays_k3) priceRays_k4) priceRays_k5) kp6) priceRays_k7) kp8) priceRays_k9) S9) R9) Q9) P9) O9) N9) M9) L9) K9) J9) I9) H9) G9) F9) kp24) kp25) E9) D9) C9) B9) A9) z9)
theorem priceRays_n1:Tryz.prog.funcNamed Rows.priceRaysRow.func = PA 8:=by kernel_rfl
theorem priceRays_n3:Tryz.f8.isInstance Tryz.prog Rows.priceRaysRow.origin Rows.priceRaysRow.targs:=of_decide_eq_true (by kernel_rfl)
theorem Z9:Tryz.f8.isWrapper Tryz.prog Rows.priceRaysRow.wrapper Rows.priceRaysRow.mainSum:=by unfold Func.isWrapper;first | (rw [if_pos (by decide +kernel)];kernel_rfl) | (rw [if_neg (by decide +kernel)];exact ⟨rfl,rfl⟩)
theorem priceRays_holds:Rows.PriceRaysSaid :=
 OpenClaim.holds_of_wide 8 Tryz.f8 rfl rfl rfl rfl rfl rfl rfl ⟨rfl,rfl,rfl,rfl,rfl⟩ rfl rfl rfl rfl rfl priceRays_n1 Tryz.func8 s9 priceRays_n3 Z9
  (fun os started H enc _=>n9 os started H enc)
#print axioms priceRays_holds
end Go.Proofs.YtncgbjhojbnecaaGreat
