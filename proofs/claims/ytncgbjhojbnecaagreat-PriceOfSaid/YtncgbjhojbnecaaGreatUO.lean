/- PriceOf holds. -/
import Derived.WalkKit
import Derived.ProofKit
import Derived.OpenShut
import Derived.ShutString
import Derived.ChangeOld
import Derived.Below
import Derived.Test.YtncgbjhojbnecaaGreatU16
import Derived.Test.YtncgbjhojbnecaaGreatUW
set_option linter.unusedSimpArgs false
set_option linter.unusedVariables false
set_option linter.unnecessarySimpa false
set_option maxRecDepth 100000
set_option maxHeartbeats 4000000
open Bool renaming false -> TA, true -> SA
open Option renaming none -> QA, some -> PA
namespace Go.Proofs.YtncgbjhojbnecaaGreat
open Go Go.Am Go.Proofs Go.RowKit Go.Off
open Go.ChangeShapes Go.WideShapes Go.ChangeAt
open Go.ChangeMaps (open_string shut_string)
set_option maxRecDepth 100000 in
theorem priceOf_lifted (os:Os) (started:os.Started) (H:Type) (enc:TypeId × Value -> H) :
  ReturnsInHanded {} Tryz.checked os 3 .any (Rows.priceOfSpec.pre6 enc Tryz.prog Tryz.f3 Rows.priceOfRow.domain TA) (Rows.priceOfSpec.post enc Tryz.prog Tryz.f3 TA SA TA TA):=by
 refine returnsInHanded_of_change (C:=Tryz.checked) ownK started (by kernel_rfl) Tryz.func3
  (ChangeSpec.witness6 (enc:=enc) (C:=Tryz.checked) TA ⟨#[],#[.agg #[.slice QA 0 0,.slice QA 0 0,.slice QA 0 0],.agg #[.slice QA 0 0],.int .i64 0],[]⟩ 8 (by kernel_rfl) (by kernel_rfl) (by kernel_rfl) (by kernel_rfl)) ?_
 intro W base args ds gs before hval0 hW hcnd _
 have hval:∀ (j:Nat) t v,Tryz.f3.params[j]? = PA t -> args[j]? = PA v -> Value.okWide Tryz.prog W .any base t v:=hval0
 have hW':=hW
 obtain ⟨p,q,hA0,hV,rfl,hfz,hnd⟩:=hW
 have hA:DataW.TrodAll enc Tryz.prog W 0 (fun _=>SA) SA Tryz.f3.params.toList args.toList ds p:=hA0
 rw [Tryz.params3] at hA hval
 obtain ⟨v0,vs0,d0,ds0,p0,q0,hargs,rfl,rfl,h0,r0⟩:=trodAll_cons hA
 obtain ⟨v1,vs1,d1,ds1,p1,q1,rfl,rfl,rfl,h1,r1⟩:=trodAll_cons r0
 obtain ⟨v2,vs2,d2,ds2,p2,q2,rfl,rfl,rfl,h2,r2⟩:=trodAll_cons r1
 obtain ⟨rfl,rfl,rfl⟩:=trodAll_nil r2
 obtain rfl:args = #[v0,v1,v2]:=by cases args;simp_all
 obtain ⟨rfl,rfl⟩:=trodVars_none hV
 obtain ⟨cs0,rfl⟩:∃ cs,v0 = .agg cs:=by
  have h:=hval 0 26 v0 rfl rfl
  unfold Value.okWide at h
  rw [Tryz.underlying26] at h
  exact h.imp fun cs hc=>hc.1
 have lt0:∀ x ∈ p0,x.block < W.heap.size:=by obtain ⟨m,hm⟩:=h0;exact DataW.trod_lt m _ _ _ hm
 obtain ⟨cs1,rfl⟩:∃ cs,v1 = .agg cs:=by
  have h:=hval 1 29 v1 rfl rfl
  unfold Value.okWide at h
  rw [Tryz.underlying29] at h
  exact h.imp fun cs hc=>hc.1
 have lt1:∀ x ∈ p1,x.block < W.heap.size:=by obtain ⟨m,hm⟩:=h1;exact DataW.trod_lt m _ _ _ hm
 obtain ⟨z2,rfl,rfl,rfl,wz2⟩:=open_int Tryz.underlying3 (hval 2 3 v2 rfl rfl) h2
 obtain ⟨y0,⟨a0,e0⟩,w0⟩:=zU N5 h0
 obtain ⟨y1,⟨a1,b1,e1⟩,w1⟩:=zU L5 h1
 have w2:AVR W (fun _=>False) [] bE (.one (.c (.val (.int .i64 z2)))) (.int .i64 z2):=.one _ _ (.c _ _ (.val _ rfl))
 have b2 : -9223372036854775808 <= z2 /\ z2 <= 9223372036854775807:=by simpa [Lit.wf,IntKind.min,IntKind.max,IntKind.signed,IntKind.bits] using wz2
 subst e0
 subst e1
 clear hA0 hval0
 refine (KS (priceOf_C a0 a1 z2 b1.2 b1.1) (fun g l hl=>by cases hl) (.cons w0 (.cons w1 (.cons w2 .nil)))).mono fun e W' ⟨he,bel⟩=>?_
 subst he
 exact ⟨_,rfl,_,_,_,[],_,[],hW',trodAll_mk1 (shut_bool Tryz.underlying4 _),(trodAll_cons_mk (Below.trod eW (by kernel_rfl) (of_decide_eq_true (by kernel_rfl)) h0 bel lt0) (trodAll_cons_mk (Below.trod eW (by kernel_rfl) (of_decide_eq_true (by kernel_rfl)) h1 bel lt1) (trodAll_cons_mk (shut_int Tryz.underlying3 wz2) trodAll_mk0))),rfl,bel.frame _,fun h=>by cases h⟩
theorem priceOf_k0:Rows.priceOfRow.wf (OpenSpec.ofChange Rows.priceOfSpec) = SA:=by kernel_rfl
theorem priceOf_k3:Tryz.f3.params.all (Tryz.prog.readableRec ·) = SA:=by kernel_rfl
theorem priceOf_k4:namedTie Tryz.prog Rows.priceOfRow.named Rows.priceOfSpec.vars = SA:=by kernel_rfl
theorem priceOf_k5:(Rows.priceOfRow.stops == []) = SA:=by kernel_rfl
theorem priceOf_k7:(Rows.priceOfRow.knobs == []) = SA:=by kernel_rfl
theorem priceOf_k9:(Rows.priceOfRow.inPlace == Tryz.prog.inPlace 3) = SA:=by kernel_rfl
theorem priceOf_k10:(Rows.priceOfRow.unfollowed == Tryz.prog.unfollowed 3) = SA:=by kernel_rfl
theorem priceOf_k11:(Rows.priceOfRow.recurses == Tryz.prog.recurses 3) = SA:=by kernel_rfl
theorem priceOf_k12:(Rows.priceOfRow.named == Tryz.prog.varsNamed 3) = SA:=by kernel_rfl
theorem priceOf_k13:(Rows.priceOfRow.maps == (Tryz.f3.params.toList ++ Rows.priceOfSpec.plain.varTypes Tryz.prog).any (Tryz.prog.mapsRec ·)) = SA:=by kernel_rfl
theorem priceOf_k14:(Rows.priceOfRow.ifaces == (Tryz.f3.params.toList ++ Rows.priceOfSpec.plain.varTypes Tryz.prog).any (Tryz.prog.ifacesRec ·)) = SA:=by kernel_rfl
theorem priceOf_k15:(Rows.priceOfRow.mapsOut == Tryz.prog.mapsAmong Tryz.f3.resultTypes.toList) = SA:=by kernel_rfl
theorem priceOf_k16:(Rows.priceOfRow.loops == (Tryz.f3.params.toList ++ Rows.priceOfSpec.plain.varTypes Tryz.prog).any (Tryz.prog.loopsFrom ·)) = SA:=by kernel_rfl
theorem priceOf_k17:(Rows.priceOfRow.wideKeys == (Tryz.f3.params.toList ++ Rows.priceOfSpec.plain.varTypes Tryz.prog ++ Tryz.f3.resultTypes.toList).any (Tryz.prog.wideKeysFrom ·)) = SA:=by kernel_rfl
theorem priceOf_k18:Rows.priceOfSpec.vars.all (Tryz.prog.varReadable ·) = SA:=by kernel_rfl
theorem priceOf_k19:Tryz.f3.resultTypes.all (fun t=>Tryz.prog.readableRec t && decide (t < Tryz.prog.types.size)) = SA:=by kernel_rfl
theorem priceOf_k20:(Rows.priceOfRow.ifacesOut == Tryz.f3.resultTypes.toList.any (Tryz.prog.ifacesRec ·)) = SA:=by kernel_rfl
theorem priceOf_k21:(Rows.priceOfRow.loopsOut == Tryz.f3.resultTypes.toList.any (Tryz.prog.loopsFrom ·)) = SA:=by kernel_rfl
theorem priceOf_k22:(Rows.priceOfRow.plainKeys == Tryz.prog.plainKeys) = SA:=by rw [kp22];rfl
theorem priceOf_k23:Rows.priceOfRow.shortTexts.isNone = SA:=by kernel_rfl
theorem priceOf_k26:(Rows.priceOfRow.lifted == Tryz.prog.liftsFinal) = SA:=by rw [kp26];rfl
theorem priceOf_k27:(Tryz.prog.make == PA Rows.priceOfRow.make) = SA:=by rw [kp27];rfl
theorem priceOf_k28:(Rows.priceOfRow.kinds == (if Rows.priceOfRow.domain.isEmpty then [] else Tryz.f3.params.toList.map fun t=>match Tryz.prog.underlying t with | some (.int k)=>PA k | _=>QA)) = SA:=by kernel_rfl
theorem priceOf_k29:(Rows.priceOfRow.pinned == Rows.priceOfRow.pinnedBy) = SA:=by kernel_rfl
theorem priceOf_k30:(Rows.priceOfRow.veiled == (Tryz.f3.params.toList ++ Rows.priceOfSpec.plain.varTypes Tryz.prog ++ Tryz.f3.resultTypes.toList).any (Tryz.prog.veiledRec ·)) = SA:=by kernel_rfl
theorem priceOf_k31:Rows.priceOfRow.veiledFits Tryz.prog Tryz.f3.params.toList (Tryz.f3.params.toList ++ Rows.priceOfSpec.plain.varTypes Tryz.prog ++ Tryz.f3.resultTypes.toList) = SA:=by kernel_rfl
theorem priceOf_facts:joinedFacts Tryz.prog 3 Tryz.f3 Rows.priceOfSpec Rows.priceOfRow = SA:=(eD (eD (eD (eD (eD (eD (eD (eD (eD (eD (eD (eD (eD (eD (eD (eD (eD (eD (eD (eD (eD (eD (eD (eD (eD (eD (eD (eD (eD (eD (eD priceOf_k0 kp1) kp2) priceOf_k3) priceOf_k4) priceOf_k5) kp6) priceOf_k7) kp8) priceOf_k9) priceOf_k10) priceOf_k11) priceOf_k12) priceOf_k13) priceOf_k14) priceOf_k15) priceOf_k16) priceOf_k17) priceOf_k18) priceOf_k19) priceOf_k20) priceOf_k21) priceOf_k22) priceOf_k23) kp24) kp25) priceOf_k26) priceOf_k27) priceOf_k28) priceOf_k29) priceOf_k30) priceOf_k31)
theorem priceOf_n1:Tryz.prog.funcNamed Rows.priceOfRow.func = PA 3:=by kernel_rfl
theorem priceOf_n3:Tryz.f3.isInstance Tryz.prog Rows.priceOfRow.origin Rows.priceOfRow.targs:=of_decide_eq_true (by kernel_rfl)
theorem priceOf_n4:Tryz.f3.isWrapper Tryz.prog Rows.priceOfRow.wrapper Rows.priceOfRow.mainSum:=by unfold Func.isWrapper;first | (rw [if_pos (by decide +kernel)];kernel_rfl) | (rw [if_neg (by decide +kernel)];exact ⟨rfl,rfl⟩)
theorem priceOf_holds:Rows.PriceOfSaid :=
 OpenClaim.holds_of_wide 3 Tryz.f3 rfl rfl rfl rfl rfl rfl rfl ⟨rfl,rfl,rfl,rfl,rfl⟩ rfl rfl rfl rfl rfl priceOf_n1 Tryz.func3 priceOf_facts priceOf_n3 priceOf_n4
  (fun os started H enc _=>priceOf_lifted os started H enc)
#print axioms priceOf_holds
end Go.Proofs.YtncgbjhojbnecaaGreat
