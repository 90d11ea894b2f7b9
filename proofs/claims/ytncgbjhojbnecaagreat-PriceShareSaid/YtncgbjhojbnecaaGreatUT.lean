/- PriceShare holds. -/
import Derived.WalkKit
import Derived.ProofKit
import Derived.OpenShut
import Derived.ShutString
import Derived.ChangeOld
import Derived.Below
import Derived.Test.YtncgbjhojbnecaaGreatU16
set_option linter.unusedSimpArgs false
set_option linter.unusedVariables false
set_option linter.unnecessarySimpa false
set_option maxRecDepth 100000
set_option maxHeartbeats 4000000
open Bool renaming false -> TA, true -> SA
open Option renaming none -> QA, some -> PA
namespace Go.Proofs.YtncgbjhojbnecaaGreat
open Go Go.Am Go.Proofs Go.RowKit Go.Off
open Go.ChangeShapes Go.WideShapes Go.ChangeAt
open Go.ChangeMaps (open_string shut_string)
set_option maxRecDepth 100000 in
theorem sM (os:Os) (started:os.Started) (H:Type) (enc:TypeId × Value -> H) :
  ReturnsInHanded {} Tryz.checked os 5 .any (Rows.priceShareSpec.pre6 enc Tryz.prog Tryz.f5 Rows.priceShareRow.domain TA) (Rows.priceShareSpec.post enc Tryz.prog Tryz.f5 TA SA TA TA):=by
 refine returnsInHanded_of_change (C:=Tryz.checked) ownK started (by kernel_rfl) Tryz.func5
  (ChangeSpec.witness6 (enc:=enc) (C:=Tryz.checked) TA ⟨#[],#[.slice QA 0 0,.slice QA 0 0,.agg #[.int .i64 0,.slice QA 0 0,.bool TA,.slice QA 0 0,.slice QA 0 0]],[]⟩ 8 (by kernel_rfl) (by kernel_rfl) (by kernel_rfl) (by kernel_rfl)) ?_
 intro W base args ds gs before hval0 hW hcnd _
 have hval:∀ (j:Nat) t v,Tryz.f5.params[j]? = PA t -> args[j]? = PA v -> Value.okWide Tryz.prog W .any base t v:=hval0
 have hW':=hW
 obtain ⟨p,q,hA0,hV,rfl,hfz,hnd⟩:=hW
 have hA:DataW.TrodAll enc Tryz.prog W 0 (fun _=>SA) SA Tryz.f5.params.toList args.toList ds p:=hA0
 rw [Tryz.params5] at hA hval
 obtain ⟨v0,vs0,d0,ds0,p0,q0,hargs,rfl,rfl,h0,r0⟩:=trodAll_cons hA
 obtain ⟨v1,vs1,d1,ds1,p1,q1,rfl,rfl,rfl,h1,r1⟩:=trodAll_cons r0
 obtain ⟨v2,vs2,d2,ds2,p2,q2,rfl,rfl,rfl,h2,r2⟩:=trodAll_cons r1
 obtain ⟨rfl,rfl,rfl⟩:=trodAll_nil r2
 obtain rfl:args = #[v0,v1,v2]:=by cases args;simp_all
 obtain ⟨rfl,rfl⟩:=trodVars_none hV
 obtain ⟨x0,l0,c0,rfl⟩:=okWide_slice Tryz.underlying35 (hval 0 35 v0 rfl rfl)
 have lt0:∀ x ∈ p0,x.block < W.heap.size:=by obtain ⟨m,hm⟩:=h0;exact DataW.trod_lt m _ _ _ hm
 obtain ⟨x1,l1,c1,rfl⟩:=okWide_slice Tryz.underlying23 (hval 1 23 v1 rfl rfl)
 have lt1:∀ x ∈ p1,x.block < W.heap.size:=by obtain ⟨m,hm⟩:=h1;exact DataW.trod_lt m _ _ _ hm
 obtain ⟨cs2,rfl⟩:∃ cs,v2 = .agg cs:=by
  have h:=hval 2 56 v2 rfl rfl
  unfold Value.okWide at h
  rw [Tryz.underlying56] at h
  exact h.imp fun cs hc=>hc.1
 have lt2:∀ x ∈ p2,x.block < W.heap.size:=by obtain ⟨m,hm⟩:=h2;exact DataW.trod_lt m _ _ _ hm
 obtain ⟨y0,⟨a0,b0,e0⟩,w0⟩:=VW xZ h0 rfl
 obtain ⟨y1,⟨a1,e1⟩,w1⟩:=VW JT h1 rfl
 obtain ⟨y2,⟨k2,X2,c2,e2⟩,w2⟩:=zU K5 h2
 cases e0
 cases e1
 subst e2
 clear hA0 hval0
 refine (KS (NT a0 a1 k2 X2 c2) (fun g l hl=>by cases hl) (.cons w0 (.cons w1 (.cons w2 .nil)))).mono fun e W' ⟨he,bel⟩=>?_
 subst he
 exact ⟨_,rfl,_,_,_,[],_,[],hW',trodAll_mk1 (shut_bool Tryz.underlying4 _),(trodAll_cons_mk (Below.trod eW (by kernel_rfl) (of_decide_eq_true (by kernel_rfl)) h0 bel lt0) (trodAll_cons_mk (Below.trod eW (by kernel_rfl) (of_decide_eq_true (by kernel_rfl)) h1 bel lt1) (trodAll_cons_mk (Below.trod eW (by kernel_rfl) (of_decide_eq_true (by kernel_rfl)) h2 bel lt2) trodAll_mk0))),rfl,bel.frame _,fun h=>by cases h⟩
theorem JR:Rows.priceShareRow.wf (OpenSpec.ofChange Rows.priceShareSpec) = SA:=by kernel_rfl
theorem IR:Tryz.f5.params.all (Tryz.prog.readableRec ·) = SA:=by kernel_rfl
theorem GR:namedTie Tryz.prog Rows.priceShareRow.named Rows.priceShareSpec.vars = SA:=by kernel_rfl
theorem FR:(Rows.priceShareRow.stops == []) = SA:=by kernel_rfl
theorem ER:(Rows.priceShareRow.knobs == []) = SA:=by kernel_rfl
theorem DR:(Rows.priceShareRow.inPlace == Tryz.prog.inPlace 5) = SA:=by kernel_rfl
theorem YP:(Rows.priceShareRow.unfollowed == Tryz.prog.unfollowed 5) = SA:=by kernel_rfl
theorem XP:(Rows.priceShareRow.recurses == Tryz.prog.recurses 5) = SA:=by kernel_rfl
theorem WP:(Rows.priceShareRow.named == Tryz.prog.varsNamed 5) = SA:=by kernel_rfl
theorem VP:(Rows.priceShareRow.maps == (Tryz.f5.params.toList ++ Rows.priceShareSpec.plain.varTypes Tryz.prog).any (Tryz.prog.mapsRec ·)) = SA:=by kernel_rfl
theorem UP:(Rows.priceShareRow.ifaces == (Tryz.f5.params.toList ++ Rows.priceShareSpec.plain.varTypes Tryz.prog).any (Tryz.prog.ifacesRec ·)) = SA:=by kernel_rfl
theorem TP:(Rows.priceShareRow.mapsOut == Tryz.prog.mapsAmong Tryz.f5.resultTypes.toList) = SA:=by kernel_rfl
theorem SP:(Rows.priceShareRow.loops == (Tryz.f5.params.toList ++ Rows.priceShareSpec.plain.varTypes Tryz.prog).any (Tryz.prog.loopsFrom ·)) = SA:=by kernel_rfl
theorem RP:(Rows.priceShareRow.wideKeys == (Tryz.f5.params.toList ++ Rows.priceShareSpec.plain.varTypes Tryz.prog ++ Tryz.f5.resultTypes.toList).any (Tryz.prog.wideKeysFrom ·)) = SA:=by kernel_rfl
theorem QP:Rows.priceShareSpec.vars.all (Tryz.prog.varReadable ·) = SA:=by kernel_rfl
theorem PP:Tryz.f5.resultTypes.all (fun t=>Tryz.prog.readableRec t && decide (t < Tryz.prog.types.size)) = SA:=by kernel_rfl
theorem OP:(Rows.priceShareRow.ifacesOut == Tryz.f5.resultTypes.toList.any (Tryz.prog.ifacesRec ·)) = SA:=by kernel_rfl
theorem NP:(Rows.priceShareRow.loopsOut == Tryz.f5.resultTypes.toList.any (Tryz.prog.loopsFrom ·)) = SA:=by kernel_rfl
theorem MP:(Rows.priceShareRow.plainKeys == Tryz.prog.plainKeys) = SA:=by rw [kp22];rfl
theorem KP:Rows.priceShareRow.shortTexts.isNone = SA:=by kernel_rfl
theorem JP:(Rows.priceShareRow.lifted == Tryz.prog.liftsFinal) = SA:=by rw [kp26];rfl
theorem IP:(Tryz.prog.make == PA Rows.priceShareRow.make) = SA:=by rw [kp27];rfl
theorem HP:(Rows.priceShareRow.kinds == (if Rows.priceShareRow.domain.isEmpty then [] else Tryz.f5.params.toList.map fun t=>match Tryz.prog.underlying t with | some (.int k)=>PA k | _=>QA)) = SA:=by kernel_rfl
theorem GP:(Rows.priceShareRow.pinned == Rows.priceShareRow.pinnedBy) = SA:=by kernel_rfl
theorem FP:(Rows.priceShareRow.veiled == (Tryz.f5.params.toList ++ Rows.priceShareSpec.plain.varTypes Tryz.prog ++ Tryz.f5.resultTypes.toList).any (Tryz.prog.veiledRec ·)) = SA:=by kernel_rfl
theorem EP:Rows.priceShareRow.veiledFits Tryz.prog Tryz.f5.params.toList (Tryz.f5.params.toList ++ Rows.priceShareSpec.plain.varTypes Tryz.prog ++ Tryz.f5.resultTypes.toList) = SA:=by kernel_rfl
theorem lN:joinedFacts Tryz.prog 5 Tryz.f5 Rows.priceShareSpec Rows.priceShareRow = SA:=(eD (eD (eD (eD (eD (eD (eD (eD (eD (eD (eD (eD (eD (eD (eD (eD (eD (eD (eD (eD (eD (eD (eD (eD (eD (eD (eD (eD (eD (eD (eD JR kp1) kp2) IR) GR) FR) kp6) ER) kp8) DR) YP) XP) WP) VP) UP) TP) SP) RP) QP) PP) OP) NP) MP) KP) kp24) kp25) JP) IP) HP) GP) FP) EP)
theorem BR:Tryz.prog.funcNamed Rows.priceShareRow.func = PA 5:=by kernel_rfl
theorem AR:Tryz.f5.isInstance Tryz.prog Rows.priceShareRow.origin Rows.priceShareRow.targs:=of_decide_eq_true (by kernel_rfl)
theorem yR:Tryz.f5.isWrapper Tryz.prog Rows.priceShareRow.wrapper Rows.priceShareRow.mainSum:=by unfold Func.isWrapper;first | (rw [if_pos (by decide +kernel)];kernel_rfl) | (rw [if_neg (by decide +kernel)];exact ⟨rfl,rfl⟩)
theorem priceShare_holds:Rows.PriceShareSaid :=
 OpenClaim.holds_of_wide 5 Tryz.f5 rfl rfl rfl rfl rfl rfl rfl ⟨rfl,rfl,rfl,rfl,rfl⟩ rfl rfl rfl rfl rfl BR Tryz.func5 lN AR yR
  (fun os started H enc _=>sM os started H enc)
#print axioms priceShare_holds
end Go.Proofs.YtncgbjhojbnecaaGreat
