/- PriceBudget holds. -/
import Derived.WalkKit
import Derived.ProofKit
import Derived.OpenShut
import Derived.ShutString
import Derived.ChangeOld
import Derived.Below
import Derived.Test.YtncgbjhojbnecaaGreatU16
import Derived.Test.YtncgbjhojbnecaaGreatUV
set_option linter.unusedSimpArgs false
set_option linter.unusedVariables false
set_option linter.unnecessarySimpa false
set_option maxRecDepth 100000
set_option maxHeartbeats 4000000
open Bool renaming false -> TA, true -> SA
open Option renaming none -> QA, some -> PA
namespace Go.Proofs.YtncgbjhojbnecaaGreat
open Go Go.Am Go.Proofs Go.RowKit Go.Off
open Go.ChangeShapes Go.WideShapes Go.ChangeAt
open Go.ChangeMaps (open_string shut_string)
set_option maxRecDepth 100000 in
theorem CL (os:Os) (started:os.Started) (H:Type) (enc:TypeId × Value -> H) :
  ReturnsInHanded {} Tryz.checked os 4 .any (Rows.priceBudgetSpec.pre6 enc Tryz.prog Tryz.f4 Rows.priceBudgetRow.domain TA) (Rows.priceBudgetSpec.post enc Tryz.prog Tryz.f4 TA SA TA TA):=by
 refine returnsInHanded_of_change (C:=Tryz.checked) ownK started (by kernel_rfl) Tryz.func4
  (ChangeSpec.witness6 (enc:=enc) (C:=Tryz.checked) TA ⟨#[],#[.agg #[.slice QA 0 0,.slice QA 0 0,.slice QA 0 0],.agg #[.slice QA 0 0],.int .i64 0],[]⟩ 8 (by kernel_rfl) (by kernel_rfl) (by kernel_rfl) (by kernel_rfl)) ?_
 intro W base args ds gs before hval0 hW hcnd _
 have hval:∀ (j:Nat) t v,Tryz.f4.params[j]? = PA t -> args[j]? = PA v -> Value.okWide Tryz.prog W .any base t v:=hval0
 have hW':=hW
 obtain ⟨p,q,hA0,hV,rfl,hfz,hnd⟩:=hW
 have hA:DataW.TrodAll enc Tryz.prog W 0 (fun _=>SA) SA Tryz.f4.params.toList args.toList ds p:=hA0
 rw [Tryz.params4] at hA hval
 obtain ⟨v0,vs0,d0,ds0,p0,q0,hargs,rfl,rfl,h0,r0⟩:=trodAll_cons hA
 obtain ⟨v1,vs1,d1,ds1,p1,q1,rfl,rfl,rfl,h1,r1⟩:=trodAll_cons r0
 obtain ⟨v2,vs2,d2,ds2,p2,q2,rfl,rfl,rfl,h2,r2⟩:=trodAll_cons r1
 obtain ⟨rfl,rfl,rfl⟩:=trodAll_nil r2
 obtain rfl:args = #[v0,v1,v2]:=by cases args;simp_all
 obtain ⟨rfl,rfl⟩:=trodVars_none hV
 obtain ⟨cs0,rfl⟩:∃ cs,v0 = .agg cs:=by
  have h:=hval 0 26 v0 rfl rfl
  unfold Value.okWide at h
  rw [Tryz.underlying26] at h
  exact h.imp fun cs hc=>hc.1
 have lt0:∀ x ∈ p0,x.block < W.heap.size:=by obtain ⟨m,hm⟩:=h0;exact DataW.trod_lt m _ _ _ hm
 obtain ⟨cs1,rfl⟩:∃ cs,v1 = .agg cs:=by
  have h:=hval 1 29 v1 rfl rfl
  unfold Value.okWide at h
  rw [Tryz.underlying29] at h
  exact h.imp fun cs hc=>hc.1
 have lt1:∀ x ∈ p1,x.block < W.heap.size:=by obtain ⟨m,hm⟩:=h1;exact DataW.trod_lt m _ _ _ hm
 obtain ⟨z2,rfl,rfl,rfl,wz2⟩:=open_int Tryz.underlying3 (hval 2 3 v2 rfl rfl) h2
 obtain ⟨y0,⟨a0,e0⟩,w0⟩:=zU N5 h0
 obtain ⟨y1,⟨a1,b1,e1⟩,w1⟩:=zU L5 h1
 have w2:AVR W (fun _=>False) [] bE (.one (.c (.val (.int .i64 z2)))) (.int .i64 z2):=.one _ _ (.c _ _ (.val _ rfl))
 have b2 : -9223372036854775808 <= z2 /\ z2 <= 9223372036854775807:=by simpa [Lit.wf,IntKind.min,IntKind.max,IntKind.signed,IntKind.bits] using wz2
 subst e0
 subst e1
 clear hA0 hval0
 refine (KS (KR a0 a1 z2 b1.2 b1.1) (fun g l hl=>by cases hl) (.cons w0 (.cons w1 (.cons w2 .nil)))).mono fun e W' ⟨he,bel⟩=>?_
 subst he
 exact ⟨_,rfl,_,_,_,[],_,[],hW',trodAll_mk1 (shut_bool Tryz.underlying4 _),(trodAll_cons_mk (Below.trod eW (by kernel_rfl) (of_decide_eq_true (by kernel_rfl)) h0 bel lt0) (trodAll_cons_mk (Below.trod eW (by kernel_rfl) (of_decide_eq_true (by kernel_rfl)) h1 bel lt1) (trodAll_cons_mk (shut_int Tryz.underlying3 wz2) trodAll_mk0))),rfl,bel.frame _,fun h=>by cases h⟩
theorem kQ:Rows.priceBudgetRow.wf (OpenSpec.ofChange Rows.priceBudgetSpec) = SA:=by kernel_rfl
theorem jQ:Tryz.f4.params.all (Tryz.prog.readableRec ·) = SA:=by kernel_rfl
theorem iQ:namedTie Tryz.prog Rows.priceBudgetRow.named Rows.priceBudgetSpec.vars = SA:=by kernel_rfl
theorem gQ:(Rows.priceBudgetRow.stops == []) = SA:=by kernel_rfl
theorem fQ:(Rows.priceBudgetRow.knobs == []) = SA:=by kernel_rfl
theorem dQ:(Rows.priceBudgetRow.inPlace == Tryz.prog.inPlace 4) = SA:=by kernel_rfl
theorem BO:(Rows.priceBudgetRow.unfollowed == Tryz.prog.unfollowed 4) = SA:=by kernel_rfl
theorem AO:(Rows.priceBudgetRow.recurses == Tryz.prog.recurses 4) = SA:=by kernel_rfl
theorem zO:(Rows.priceBudgetRow.named == Tryz.prog.varsNamed 4) = SA:=by kernel_rfl
theorem yO:(Rows.priceBudgetRow.maps == (Tryz.f4.params.toList ++ Rows.priceBudgetSpec.plain.varTypes Tryz.prog).any (Tryz.prog.mapsRec ·)) = SA:=by kernel_rfl
theorem xO:(Rows.priceBudgetRow.ifaces == (Tryz.f4.params.toList ++ Rows.priceBudgetSpec.plain.varTypes Tryz.prog).any (Tryz.prog.ifacesRec ·)) = SA:=by kernel_rfl
theorem wO:(Rows.priceBudgetRow.mapsOut == Tryz.prog.mapsAmong Tryz.f4.resultTypes.toList) = SA:=by kernel_rfl
theorem vO:(Rows.priceBudgetRow.loops == (Tryz.f4.params.toList ++ Rows.priceBudgetSpec.plain.varTypes Tryz.prog).any (Tryz.prog.loopsFrom ·)) = SA:=by kernel_rfl
theorem uO:(Rows.priceBudgetRow.wideKeys == (Tryz.f4.params.toList ++ Rows.priceBudgetSpec.plain.varTypes Tryz.prog ++ Tryz.f4.resultTypes.toList).any (Tryz.prog.wideKeysFrom ·)) = SA:=by kernel_rfl
theorem tO:Rows.priceBudgetSpec.vars.all (Tryz.prog.varReadable ·) = SA:=by kernel_rfl
theorem sO:Tryz.f4.resultTypes.all (fun t=>Tryz.prog.readableRec t && decide (t < Tryz.prog.types.size)) = SA:=by kernel_rfl
theorem rO:(Rows.priceBudgetRow.ifacesOut == Tryz.f4.resultTypes.toList.any (Tryz.prog.ifacesRec ·)) = SA:=by kernel_rfl
theorem qO:(Rows.priceBudgetRow.loopsOut == Tryz.f4.resultTypes.toList.any (Tryz.prog.loopsFrom ·)) = SA:=by kernel_rfl
theorem pO:(Rows.priceBudgetRow.plainKeys == Tryz.prog.plainKeys) = SA:=by rw [kp22];rfl
theorem oO:Rows.priceBudgetRow.shortTexts.isNone = SA:=by kernel_rfl
theorem nO:(Rows.priceBudgetRow.lifted == Tryz.prog.liftsFinal) = SA:=by rw [kp26];rfl
theorem mO:(Tryz.prog.make == PA Rows.priceBudgetRow.make) = SA:=by rw [kp27];rfl
theorem lO:(Rows.priceBudgetRow.kinds == (if Rows.priceBudgetRow.domain.isEmpty then [] else Tryz.f4.params.toList.map fun t=>match Tryz.prog.underlying t with | some (.int k)=>PA k | _=>QA)) = SA:=by kernel_rfl
theorem kO:(Rows.priceBudgetRow.pinned == Rows.priceBudgetRow.pinnedBy) = SA:=by kernel_rfl
theorem jO:(Rows.priceBudgetRow.veiled == (Tryz.f4.params.toList ++ Rows.priceBudgetSpec.plain.varTypes Tryz.prog ++ Tryz.f4.resultTypes.toList).any (Tryz.prog.veiledRec ·)) = SA:=by kernel_rfl
theorem iO:Rows.priceBudgetRow.veiledFits Tryz.prog Tryz.f4.params.toList (Tryz.f4.params.toList ++ Rows.priceBudgetSpec.plain.varTypes Tryz.prog ++ Tryz.f4.resultTypes.toList) = SA:=by kernel_rfl
theorem tM:joinedFacts Tryz.prog 4 Tryz.f4 Rows.priceBudgetSpec Rows.priceBudgetRow = SA:=(eD (eD (eD (eD (eD (eD (eD (eD (eD (eD (eD (eD (eD (eD (eD (eD (eD (eD (eD (eD (eD (eD (eD (eD (eD (eD (eD (eD (eD (eD (eD kQ kp1) kp2) jQ) iQ) gQ) kp6) fQ) kp8) dQ) BO) AO) zO) yO) xO) wO) vO) uO) tO) sO) rO) qO) pO) oO) kp24) kp25) nO) mO) lO) kO) jO) iO)
theorem cQ:Tryz.prog.funcNamed Rows.priceBudgetRow.func = PA 4:=by kernel_rfl
theorem bQ:Tryz.f4.isInstance Tryz.prog Rows.priceBudgetRow.origin Rows.priceBudgetRow.targs:=of_decide_eq_true (by kernel_rfl)
theorem ZP:Tryz.f4.isWrapper Tryz.prog Rows.priceBudgetRow.wrapper Rows.priceBudgetRow.mainSum:=by unfold Func.isWrapper;first | (rw [if_pos (by decide +kernel)];kernel_rfl) | (rw [if_neg (by decide +kernel)];exact ⟨rfl,rfl⟩)
theorem priceBudget_holds:Rows.PriceBudgetSaid :=
 OpenClaim.holds_of_wide 4 Tryz.f4 rfl rfl rfl rfl rfl rfl rfl ⟨rfl,rfl,rfl,rfl,rfl⟩ rfl rfl rfl rfl rfl cQ Tryz.func4 tM bQ ZP
  (fun os started H enc _=>CL os started H enc)
#print axioms priceBudget_holds
end Go.Proofs.YtncgbjhojbnecaaGreat
