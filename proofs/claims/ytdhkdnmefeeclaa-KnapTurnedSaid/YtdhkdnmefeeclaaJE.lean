/- Walks of offcutlaw10: Of; offcutref10: Right. -/
import Derived.Test.YtdhkdnmefeeclaaA5
import Derived.Test.YtdhkdnmefeeclaaJA
set_option linter.unusedSimpArgs false
set_option linter.unusedVariables false
set_option linter.unnecessarySimpa false
set_option linter.unusedSimpArgs false
set_option linter.unusedVariables false
set_option maxRecDepth 100000
set_option maxHeartbeats 4000000
namespace Go.Proofs.Ytdhkdnmefeeclaa
open Go Go.Am Go.Proofs Go.RowKit Go.Off

structure DSt where
  roll : Int
  wid : Option (List Int)
  need : Option (List Int)
abbrev aDs (d : DSt) : AV := .agg [.c (.val (.int .i64 d.roll)), .c (encSl 1 fI d.wid), .c (encSl 1 fI d.need)]
def widL (s : ST) : List Int := (osl s.items).map fun i => i.width
def needL (s : ST) : List Int := (osl s.items).map fun i => i.need
def dsOf (s : ST) : DSt := ⟨s.roll, rowO (widL s), rowO (needL s)⟩
theorem widL_len (s : ST) : (widL s).length = (osl s.items).length := List.length_map ..
theorem needL_len (s : ST) : (needL s).length = (osl s.items).length := List.length_map ..
theorem widL_at (s : ST) {k : Nat} (h : k < (widL s).length) : (widL s)[k] = (itAt s k).width := by
  rw [itAt_in (by rw [← widL_len]; exact h)]
  simp [widL]
theorem needL_at (s : ST) {k : Nat} (h : k < (needL s).length) : (needL s)[k] = (itAt s k).need := by
  rw [itAt_in (by rw [← needL_len]; exact h)]
  simp [needL]

theorem closeCV_ownI {α : Type} {g : α → List CV} {h : List Blk} {b ver ty e n : Nat} {live nn : Bool} {l : List α} (hk : h[b]? = some ⟨ver, ty, e, encB g l, live, nn⟩) (h0 : 0 < e) (hn : nn = !l.isEmpty) :
    closeCV h (n + 1) (.own b ver) = some (encSl e g (rowO l)) := by
  cases l with
  | nil =>
    have hn' : nn = false := by rw [hn]; rfl
    subst hn'
    simp [closeCV, hk, h0, encSl, rowO]
  | cons x l =>
    have hn' : nn = true := by rw [hn]; rfl
    subst hn'
    simp only [closeCV, hk, h0, and_self, if_true, mapM_encB, Option.map_some, encSl, rowO_cons]
theorem close_Ds {h : List Blk} {a b va vb ta tb : Nat} {la lb na nb : Bool} {A B : List Int} {x : CV} (h1 : h[a]? = some ⟨va, ta, 1, encB fI A, la, na⟩) (h2 : h[b]? = some ⟨vb, tb, 1, encB fI B, lb, nb⟩)
    (n1 : na = !A.isEmpty) (n2 : nb = !B.isEmpty) :
    closeRes h (.agg [.c x, .own a va, .own b vb]) = some (.agg [.c x, .c (encSl 1 fI (rowO A)), .c (encSl 1 fI (rowO B))]) := by
  have e1 := closeCV_ownI (n := 2) h1 (by decide) n1
  have e2 := closeCV_ownI (n := 2) h2 (by decide) n2
  unfold closeRes
  simp [closeAV, closeFn, closeCell, closeCV] at *
  simp [e1, e2]

abbrev c83_k1 : CC := (.seq (.reg [⟨(some 31), none, (.load 3 true (.tmp 3))⟩, ⟨none, none, (.store 3 (.tmp 2) (.tmp 31))⟩]) .ret)
abbrev c83_b1 : CC := (.seq (.reg [⟨(some 13), none, (.bin .lss (.tmp 12) (.tmp 11))⟩]) (.seq (.cond (.tmp 13) .skip (.exit 0)) (.seq (.block 1 (.seq (.reg [⟨(some 14), none, (.iaddr 2 none (.tmp 10) (.tmp 12))⟩, ⟨(some 15), none, (.load 2 true (.tmp 14))⟩, ⟨(some 5), none, (.new 121 [(.int .i64 (0)), (.int .i64 (0))])⟩, ⟨none, none, (.store 2 (.tmp 5) (.tmp 15))⟩]) (.regn false [⟨(some 16), none, (.faddr 1 (.tmp 3))⟩, ⟨(some 17), none, (.load 1 false (.tmp 16))⟩, ⟨(some 18), none, (.faddr 0 (.tmp 5))⟩, ⟨(some 19), none, (.load 1 false (.tmp 18))⟩, ⟨(some 20), none, (.mkrowc 1 [(.tmp 19)])⟩, ⟨(some 21), none, (.append 3 1 8 (.tmp 17) (.tmp 20))⟩, ⟨(some 22), none, (.faddr 2 (.tmp 3))⟩, ⟨(some 23), none, (.load 1 false (.tmp 22))⟩, ⟨(some 24), none, (.faddr 1 (.tmp 5))⟩, ⟨(some 25), none, (.load 1 false (.tmp 24))⟩, ⟨(some 26), none, (.mkrowc 1 [(.tmp 25)])⟩, ⟨(some 27), none, (.append 3 1 8 (.tmp 23) (.tmp 26))⟩, ⟨(some 28), none, (.faddr 1 (.tmp 3))⟩, ⟨none, none, (.store 1 (.tmp 28) (.tmp 21))⟩, ⟨(some 29), none, (.faddr 2 (.tmp 3))⟩, ⟨none, none, (.store 1 (.tmp 29) (.tmp 27))⟩]))) (.reg [⟨(some 30), none, (.bin .add (.tmp 12) (.const (.int .i64 (1))))⟩, ⟨(some 12), none, (.mv (.tmp 30))⟩]))))
abbrev c83 : CC := (.seq (.reg [⟨(some 1), none, (.box 110 (.tmp 0))⟩, ⟨(some 2), none, (.new 114 [(.int .i64 (0)), (.slice none 0 0), (.slice none 0 0)])⟩]) (.seq (.reg [⟨(some 6), none, (.faddr 0 (.tmp 1))⟩, ⟨(some 7), none, (.load 1 false (.tmp 6))⟩, ⟨(some 8), none, (.build [(.int .i64 (0)), (.slice none 0 0), (.slice none 0 0)] [(0, (1, (.tmp 7)))])⟩, ⟨(some 3), none, (.new 114 [(.int .i64 (0)), (.slice none 0 0), (.slice none 0 0)])⟩, ⟨none, none, (.store 3 (.tmp 3) (.tmp 8))⟩]) (.seq (.seq (.reg [⟨(some 9), none, (.faddr 1 (.tmp 1))⟩, ⟨(some 10), none, (.load 1 false (.tmp 9))⟩, ⟨(some 11), none, (.len false (.tmp 10))⟩, ⟨(some 12), none, (.mv (.const (.int .i64 (0))))⟩]) (.block 0 (.loop c83_b1))) c83_k1)))
theorem cc83 : ccode Try.prog [] (Try.f83.body.getD .skip) = some c83 := by kernel_rfl
theorem body83 : Try.f83.body = some (Try.f83.body.getD .skip) := rfl

theorem lof10_C (s : ST) (hl : (osl s.items).length ≤ 1000000) : PureC Try.prog 83 [aSt s] (.ret (aDs (dsOf s))) := by
  refine pureC_of (rs := [(RV.cell 2 3 true)]) Try.func83 (fun a w => Try.call83 a w) body83 cc83 (by kernel_rfl) ?_
  rw [Try.ntmps83]
  simp only [frs, Nat.reduceAdd, Nat.reduceSub]
  repeat (first | (with_reducible first | refine Way.imp ?_ | refine blk_o rfl ?_) | ((with_reducible refine WayR.imp (fun K hK => ?_)); simp (disch := first | omega | (simp only [dls]; omega)) only [std, reduceIte, reduceCtorEq, Int.reduceToNat, Nat.reduceAdd, Nat.reduceSub, Nat.reduceMul, Int.reduceAdd, Int.reduceSub, Int.reduceMul, Int.reduceNeg, fU]; subst hK))
  refine AWp.fgt ?_ (Fgt.phantom _ 3 1)
  refine AWp.fgt ?_ (Fgt.phantom _ 3 1)
  refine AWp.fgt ?_ (Fgt.cellsOpen (b := 2) (els' := [[.c (.val (.int .i64 s.roll)), .own 3 0, .own 4 0]]) rfl (.cons (.cons (.inl rfl) (.cons (.inr ⟨rfl, 3, _, rfl, rfl, rfl⟩) (.cons (.inr ⟨rfl, 4, _, rfl, rfl, rfl⟩) .nil))) .nil))
  simp only [List.cons_append, List.nil_append, List.set_cons_succ, List.set_cons_zero]
  refine awp_loop (fun (zz : Nat × (List Int) × (List Int) × Bool × Bool) => ⟨(.junk :: .one (.ptr 0 0 0 0) :: .one (.ptr 1 0 0 0) :: .one (.ptr 2 0 0 0) :: .junk :: .junk :: .junk :: .junk :: .junk :: .junk :: .one (.c (encSl 2 fItm s.items)) :: aI (osl s.items).length :: aI zz.1 :: .junk :: .junk :: .junk :: .junk :: .junk :: .junk :: .junk :: .junk :: .junk :: .junk :: .junk :: .junk :: .junk :: .junk :: .junk :: .junk :: .junk :: .junk :: .junk :: []), [⟨0, 110, 2, [[.c (.val (.int .i64 s.roll)), .c (encSl 2 fItm s.items)]], true, true⟩, ⟨0, 114, 3, [[.c (.val (.int .i64 0)), .c (.val (.slice none 0 0)), .c (.val (.slice none 0 0))]], true, true⟩, ⟨0, 114, 3, [[.c (.val (.int .i64 s.roll)), .own 3 zz.1, .own 4 zz.1]], true, true⟩, ⟨zz.1, 3, 1, encB fI zz.2.1, true, zz.2.2.2.1⟩, ⟨zz.1, 3, 1, encB fI zz.2.2.1, true, zz.2.2.2.2⟩]⟩) (fun (zz : Nat × (List Int) × (List Int) × Bool × Bool) => zz.1 ≤ (osl s.items).length ∧ zz.2.1 = (widL s).take zz.1 ∧ zz.2.2.1 = (needL s).take zz.1 ∧ zz.2.2.2.1 = !zz.2.1.isEmpty ∧ zz.2.2.2.2 = !zz.2.2.1.isEmpty) (fun (zz : Nat × (List Int) × (List Int) × Bool × Bool) => (osl s.items).length - zz.1) (0, [], [], false, false) ?hI1 (Fgt.head (Nat.zero_le 5) [false, true, true, true, false, false, false, false, false, false, true, true, true] ?hT1 ?hH1) ?hB1
  case hT1 => first | (simp (disch := omega) only [hds, liveT, cleanAV, cleanCell, clean1, cleanBlk, reduceIte, Int.reduceSub, Int.reduceAdd, Int.reduceNeg]; done) | rfl
  case hH1 => first | (simp (disch := omega) only [hds, liveT, cleanAV, cleanCell, clean1, cleanBlk, reduceIte, Int.reduceSub, Int.reduceAdd, Int.reduceNeg]; done) | rfl
  · dsimp only; exact ⟨Nat.zero_le _, rfl, rfl, rfl, rfl⟩
  rintro ⟨i, ws, ns, na, nb⟩ ⟨hi, hw, hn, hna, hnb⟩
  dsimp only at hi hw hn hna hnb
  by_cases hin : i = (osl s.items).length
  · repeat (first | (with_reducible first | refine Way.imp ?_ | refine blk_o rfl ?_) | ((with_reducible refine WayR.imp (fun K hK => ?_)); simp (disch := first | omega | (simp only [dls]; omega)) only [std, reduceIte, reduceCtorEq, Int.reduceToNat, Nat.reduceAdd, Nat.reduceSub, Nat.reduceMul, Int.reduceAdd, Int.reduceSub, Int.reduceMul, Int.reduceNeg, fU]; subst hK))
    refine ⟨_, rfl, ?_⟩
    show closeRes _ (.agg [.c (.val (.int .i64 s.roll)), .own 3 i, .own 4 i]) = _
    rw [close_Ds (A := ws) (B := ns) rfl rfl hna hnb, hw, hn, hin, List.take_of_length_le (by rw [widL_len]; exact Nat.le_refl _), List.take_of_length_le (by rw [needL_len]; exact Nat.le_refl _)]
    rfl
  · have hlt : i < (osl s.items).length := by omega
    have hwl : ws.length = i := by rw [hw, List.length_take, widL_len]; omega
    have hnl : ns.length = i := by rw [hn, List.length_take, needL_len]; omega
    repeat (first | (with_reducible first | refine Way.imp ?_ | refine blk_o rfl ?_) | ((with_reducible refine WayR.imp (fun K hK => ?_)); simp (disch := first | omega | (simp only [dls]; omega)) only [std, reduceIte, reduceCtorEq, Int.reduceToNat, Nat.reduceAdd, Nat.reduceSub, Nat.reduceMul, Int.reduceAdd, Int.reduceSub, Int.reduceMul, Int.reduceNeg, fU, fItm, hwl, hnl]; subst hK))
    have e1 : ws ++ [(osl s.items)[i].width] = (widL s).take (i + 1) := by rw [hw, List.take_succ_eq_append_getElem (by rw [widL_len]; exact hlt)]; simp [widL]
    have e2 : ns ++ [(osl s.items)[i].need] = (needL s).take (i + 1) := by rw [hn, List.take_succ_eq_append_getElem (by rw [needL_len]; exact hlt)]; simp [needL]
    have eA : encB fI ws ++ [[Cell.c (.val (.int .i64 (osl s.items)[i].width))]] = encB fI (ws ++ [(osl s.items)[i].width]) := by rw [← encB_append]; rfl
    have eB : encB fI ns ++ [[Cell.c (.val (.int .i64 (osl s.items)[i].need))]] = encB fI (ns ++ [(osl s.items)[i].need]) := by rw [← encB_append]; rfl
    have eE : ∀ (l : List Int) (a : Int), (l ++ [a]).isEmpty = false := fun l a => by cases l <;> rfl
    refine ⟨(i + 1, ws ++ [(osl s.items)[i].width], ns ++ [(osl s.items)[i].need], true, true), ?hI2, ?hM2, Fgt.head (Nat.zero_le 5) [false, true, true, true, false, false, false, false, false, false, true, true, true] ?hT2 ?hH2⟩
    case hT2 => first | (simp (disch := omega) only [hds, liveT, cleanAV, cleanCell, clean1, cleanBlk, reduceIte, Int.reduceSub, Int.reduceAdd, Int.reduceNeg, eA, eB, List.isEmpty_cons, Bool.or_true, Bool.not_false]; done) | rfl
    case hH2 => first | (simp (disch := omega) only [hds, liveT, cleanAV, cleanCell, clean1, cleanBlk, reduceIte, Int.reduceSub, Int.reduceAdd, Int.reduceNeg, eA, eB, List.isEmpty_cons, Bool.or_true, Bool.not_false]; done) | rfl
    · dsimp only; exact ⟨hlt, e1, e2, by rw [eE]; rfl, by rw [eE]; rfl⟩
    · dsimp only; omega

end Go.Proofs.Ytdhkdnmefeeclaa
set_option linter.unusedSimpArgs false
set_option linter.unusedVariables false
set_option maxRecDepth 100000
set_option maxHeartbeats 4000000
namespace Go.Proofs.Ytdhkdnmefeeclaa
open Go Go.Am Go.Proofs Go.RowKit Go.Off

/-- What a row of numbers is. -/
structure IsI (w : Option (List Int)) (n : Nat) (f : Nat → Int) : Prop where
  len : (osl w).length = n
  at' : ∀ i (h : i < (osl w).length), (osl w)[i] = f i
theorem isI_wid (s : ST) : IsI (rowO (widL s)) (osl s.items).length (fun i => (itAt s i).width) := ⟨by rw [osl_rowO]; exact widL_len s, fun i h => by simp only [osl_rowO]; exact widL_at s _⟩
theorem isI_need (s : ST) : IsI (rowO (needL s)) (osl s.items).length (fun i => (itAt s i).need) := ⟨by rw [osl_rowO]; exact needL_len s, fun i h => by simp only [osl_rowO]; exact needL_at s _⟩

abbrev c82_k1 : CC := (.seq (.reg [⟨(some 2), none, (.mv (.const (.bool true)))⟩]) .ret)
abbrev c82_b1 : CC := (.seq (.seq (.reg [⟨(some 27), none, (.mv (.tmp 3))⟩, ⟨(some 28), none, (.faddr 1 (.tmp 1))⟩, ⟨(some 29), none, (.load 1 false (.tmp 28))⟩, ⟨(some 30), none, (.len false (.tmp 29))⟩, ⟨(some 31), none, (.bin .lss (.tmp 27) (.tmp 30))⟩]) (.cond (.tmp 31) .skip (.exit 0))) (.seq (.block 1 (.seq (.reg [⟨(some 34), none, (.faddr 1 (.tmp 1))⟩, ⟨(some 35), none, (.load 1 false (.tmp 34))⟩, ⟨(some 36), none, (.mv (.tmp 3))⟩, ⟨(some 37), none, (.iaddr 1 none (.tmp 35) (.tmp 36))⟩, ⟨(some 38), none, (.load 1 false (.tmp 37))⟩, ⟨(some 39), none, (.bin .lss (.tmp 38) (.const (.int .i64 (1))))⟩, ⟨(some 40), none, (.mv (.tmp 39))⟩, ⟨(some 41), (some (40, false)), (.faddr 1 (.tmp 1))⟩, ⟨(some 42), (some (40, false)), (.load 1 false (.tmp 41))⟩, ⟨(some 43), (some (40, false)), (.mv (.tmp 3))⟩, ⟨(some 44), (some (40, false)), (.iaddr 1 none (.tmp 42) (.tmp 43))⟩, ⟨(some 45), (some (40, false)), (.load 1 false (.tmp 44))⟩, ⟨(some 46), (some (40, false)), (.bin .gtr (.tmp 45) (.const (.int .i64 (1048576))))⟩, ⟨(some 47), none, (.pick (.tmp 40) (.const (.bool true)) (.tmp 46))⟩, ⟨(some 48), none, (.mv (.tmp 47))⟩, ⟨(some 49), (some (48, false)), (.faddr 2 (.tmp 1))⟩, ⟨(some 50), (some (48, false)), (.load 1 false (.tmp 49))⟩, ⟨(some 51), (some (48, false)), (.mv (.tmp 3))⟩, ⟨(some 52), (some (48, false)), (.iaddr 1 none (.tmp 50) (.tmp 51))⟩, ⟨(some 53), (some (48, false)), (.load 1 false (.tmp 52))⟩, ⟨(some 54), (some (48, false)), (.bin .lss (.tmp 53) (.const (.int .i64 (0))))⟩, ⟨(some 55), none, (.pick (.tmp 48) (.const (.bool true)) (.tmp 54))⟩, ⟨(some 56), none, (.mv (.tmp 55))⟩, ⟨(some 57), (some (56, false)), (.faddr 2 (.tmp 1))⟩, ⟨(some 58), (some (56, false)), (.load 1 false (.tmp 57))⟩, ⟨(some 59), (some (56, false)), (.mv (.tmp 3))⟩, ⟨(some 60), (some (56, false)), (.iaddr 1 none (.tmp 58) (.tmp 59))⟩, ⟨(some 61), (some (56, false)), (.load 1 false (.tmp 60))⟩, ⟨(some 62), (some (56, false)), (.bin .gtr (.tmp 61) (.const (.int .i64 (1024))))⟩, ⟨(some 63), none, (.pick (.tmp 56) (.const (.bool true)) (.tmp 62))⟩]) (.cond (.tmp 63) (.seq (.reg [⟨(some 2), none, (.mv (.const (.bool false)))⟩]) .ret) .skip))) (.reg [⟨(some 32), none, (.mv (.tmp 3))⟩, ⟨(some 33), none, (.bin .add (.tmp 32) (.const (.int .i64 (1))))⟩, ⟨(some 3), none, (.mv (.tmp 33))⟩])))
abbrev c82 : CC := (.seq (.reg [⟨(some 1), none, (.box 114 (.tmp 0))⟩, ⟨(some 2), none, (.mv (.const (.bool false)))⟩]) (.seq (.seq (.reg [⟨(some 4), none, (.faddr 0 (.tmp 1))⟩, ⟨(some 5), none, (.load 1 false (.tmp 4))⟩, ⟨(some 6), none, (.bin .lss (.tmp 5) (.const (.int .i64 (1))))⟩, ⟨(some 7), none, (.mv (.tmp 6))⟩, ⟨(some 8), (some (7, false)), (.faddr 0 (.tmp 1))⟩, ⟨(some 9), (some (7, false)), (.load 1 false (.tmp 8))⟩, ⟨(some 10), (some (7, false)), (.bin .gtr (.tmp 9) (.const (.int .i64 (1048576))))⟩, ⟨(some 11), none, (.pick (.tmp 7) (.const (.bool true)) (.tmp 10))⟩, ⟨(some 12), none, (.mv (.tmp 11))⟩, ⟨(some 13), (some (12, false)), (.faddr 1 (.tmp 1))⟩, ⟨(some 14), (some (12, false)), (.load 1 false (.tmp 13))⟩, ⟨(some 15), (some (12, false)), (.len false (.tmp 14))⟩, ⟨(some 16), (some (12, false)), (.bin .gtr (.tmp 15) (.const (.int .i64 (60))))⟩, ⟨(some 17), none, (.pick (.tmp 12) (.const (.bool true)) (.tmp 16))⟩, ⟨(some 18), none, (.mv (.tmp 17))⟩, ⟨(some 19), (some (18, false)), (.faddr 1 (.tmp 1))⟩, ⟨(some 20), (some (18, false)), (.load 1 false (.tmp 19))⟩, ⟨(some 21), (some (18, false)), (.len false (.tmp 20))⟩, ⟨(some 22), (some (18, false)), (.faddr 2 (.tmp 1))⟩, ⟨(some 23), (some (18, false)), (.load 1 false (.tmp 22))⟩, ⟨(some 24), (some (18, false)), (.len false (.tmp 23))⟩, ⟨(some 25), (some (18, false)), (.bin .neq (.tmp 21) (.tmp 24))⟩, ⟨(some 26), none, (.pick (.tmp 18) (.const (.bool true)) (.tmp 25))⟩]) (.cond (.tmp 26) (.seq (.reg [⟨(some 2), none, (.mv (.const (.bool false)))⟩]) .ret) .skip)) (.seq (.seq (.reg [⟨(some 3), none, (.mv (.const (.int .i64 (0))))⟩]) (.block 0 (.loop c82_b1))) c82_k1)))
theorem cc82 : ccode Try.prog [] (Try.f82.body.getD .skip) = some c82 := by kernel_rfl
theorem body82 : Try.f82.body = some (Try.f82.body.getD .skip) := rfl

theorem right10_of (s : ST) (w d : Option (List Int)) (hl : (osl s.items).length ≤ 1000000) (hw : IsI w (osl s.items).length (fun i => (itAt s i).width)) (hd : IsI d (osl s.items).length (fun i => (itAt s i).need)) :
    PureC Try.prog 82 [aDs ⟨s.roll, w, d⟩] (.ret (aB (rightS s))) := by
  have hwl := hw.len
  have hdl := hd.len
  have hwi := hw.at'
  have hdi := hd.at'
  unfold rightS inB
  by_cases h1 : 1 ≤ s.roll
  case neg =>
    rw [decide_eq_false h1, Bool.false_and, Bool.false_and]
    refine pureC_of (rs := [(RV.tmp 2)]) Try.func82 (fun a w => Try.call82 a w) body82 cc82 (by kernel_rfl) ?_
    rw [Try.ntmps82]
    simp only [frs, Nat.reduceAdd, Nat.reduceSub]
    repeat (first | (with_reducible first | refine Way.imp ?_ | refine blk_o rfl ?_) | ((with_reducible refine WayR.imp (fun K hK => ?_)); simp (disch := first | omega | (simp only [dls]; omega)) only [std, reduceIte, reduceCtorEq, Int.reduceToNat, Nat.reduceAdd, Nat.reduceSub, Nat.reduceMul, Int.reduceAdd, Int.reduceSub, Int.reduceMul, Int.reduceNeg, fU]; subst hK))
    exact ⟨_, rfl, rfl⟩
  by_cases h2 : s.roll ≤ 1048576
  case neg =>
    rw [decide_eq_false h2, Bool.and_false, Bool.false_and]
    refine pureC_of (rs := [(RV.tmp 2)]) Try.func82 (fun a w => Try.call82 a w) body82 cc82 (by kernel_rfl) ?_
    rw [Try.ntmps82]
    simp only [frs, Nat.reduceAdd, Nat.reduceSub]
    repeat (first | (with_reducible first | refine Way.imp ?_ | refine blk_o rfl ?_) | ((with_reducible refine WayR.imp (fun K hK => ?_)); simp (disch := first | omega | (simp only [dls]; omega)) only [std, reduceIte, reduceCtorEq, Int.reduceToNat, Nat.reduceAdd, Nat.reduceSub, Nat.reduceMul, Int.reduceAdd, Int.reduceSub, Int.reduceMul, Int.reduceNeg, fU]; subst hK))
    exact ⟨_, rfl, rfl⟩
  rw [decide_eq_true h1, decide_eq_true h2, Bool.true_and, Bool.true_and]
  by_cases h3 : (osl s.items).length ≤ 60
  case neg =>
    rw [decide_eq_false h3, Bool.false_and]
    refine pureC_of (rs := [(RV.tmp 2)]) Try.func82 (fun a w => Try.call82 a w) body82 cc82 (by kernel_rfl) ?_
    rw [Try.ntmps82]
    simp only [frs, Nat.reduceAdd, Nat.reduceSub]
    repeat (first | (with_reducible first | refine Way.imp ?_ | refine blk_o rfl ?_) | ((with_reducible refine WayR.imp (fun K hK => ?_)); simp (disch := first | omega | (simp only [dls]; omega)) only [std, reduceIte, reduceCtorEq, Int.reduceToNat, Nat.reduceAdd, Nat.reduceSub, Nat.reduceMul, Int.reduceAdd, Int.reduceSub, Int.reduceMul, Int.reduceNeg, fU, hwl, hdl]; subst hK))
    exact ⟨_, rfl, rfl⟩
  rw [decide_eq_true h3, Bool.true_and]
  refine pureC_of (rs := [(RV.tmp 2)]) Try.func82 (fun a w => Try.call82 a w) body82 cc82 (by kernel_rfl) ?_
  rw [Try.ntmps82]
  simp only [frs, Nat.reduceAdd, Nat.reduceSub]
  repeat (first | (with_reducible first | refine Way.imp ?_ | refine blk_o rfl ?_) | ((with_reducible refine WayR.imp (fun K hK => ?_)); simp (disch := first | omega | (simp only [dls]; omega)) only [std, reduceIte, reduceCtorEq, Int.reduceToNat, Nat.reduceAdd, Nat.reduceSub, Nat.reduceMul, Int.reduceAdd, Int.reduceSub, Int.reduceMul, Int.reduceNeg, fU, hwl, hdl]; subst hK))
  refine awp_loop (fun (zz : Nat) => ⟨(.junk :: .one (.ptr 0 0 0 0) :: .junk :: aI zz :: .junk :: .junk :: .junk :: .junk :: .junk :: .junk :: .junk :: .junk :: .junk :: .junk :: .junk :: .junk :: .junk :: .junk :: .junk :: .junk :: .junk :: .junk :: .junk :: .junk :: .junk :: .junk :: .junk :: .junk :: .junk :: .junk :: .junk :: .junk :: .junk :: .junk :: .junk :: .junk :: .junk :: .junk :: .junk :: .junk :: .junk :: .junk :: .junk :: .junk :: .junk :: .junk :: .junk :: .junk :: .junk :: .junk :: .junk :: .junk :: .junk :: .junk :: .junk :: .junk :: .junk :: .junk :: .junk :: .junk :: .junk :: .junk :: .junk :: .junk :: []), [⟨0, 114, 3, [[.c (.val (.int .i64 s.roll)), .c (encSl 1 fI w), .c (encSl 1 fI d)]], true, true⟩]⟩) (fun (zz : Nat) => zz ≤ (osl s.items).length ∧ anyI (itBad s) zz = false) (fun (zz : Nat) => (osl s.items).length - zz) (0) ?hI1 (Fgt.head (Nat.zero_le 1) [false, true, false, true] ?hT1 ?hH1) ?hB1
  case hT1 => first | (simp (disch := omega) only [hds, liveT, cleanAV, cleanCell, clean1, cleanBlk, reduceIte, Int.reduceSub, Int.reduceAdd, Int.reduceNeg]; done) | rfl
  case hH1 => first | (simp (disch := omega) only [hds, liveT, cleanAV, cleanCell, clean1, cleanBlk, reduceIte, Int.reduceSub, Int.reduceAdd, Int.reduceNeg]; done) | rfl
  · exact ⟨Nat.zero_le _, rfl⟩
  rintro i ⟨hi, hs⟩
  by_cases him : i = (osl s.items).length
  · rw [← him, hs]
    repeat (first | (with_reducible first | refine Way.imp ?_ | refine blk_o rfl ?_) | ((with_reducible refine WayR.imp (fun K hK => ?_)); simp (disch := first | omega | (simp only [dls]; omega)) only [std, reduceIte, reduceCtorEq, Int.reduceToNat, Nat.reduceAdd, Nat.reduceSub, Nat.reduceMul, Int.reduceAdd, Int.reduceSub, Int.reduceMul, Int.reduceNeg, fU, hwl, hdl]; subst hK))
    exact ⟨_, rfl, rfl⟩
  have hlt : i < (osl s.items).length := by omega
  have hb : itBad s i = !((decide (1 ≤ (itAt s i).width) && decide ((itAt s i).width ≤ 1048576)) && (decide (0 ≤ (itAt s i).need) && decide ((itAt s i).need ≤ 1024))) := rfl
  have hfalse : itBad s i = true → anyI (itBad s) (osl s.items).length = true := fun h => by
    unfold anyI
    rw [List.any_eq_true]
    exact ⟨i, List.mem_range.2 hlt, h⟩
  by_cases c1 : 1 ≤ (itAt s i).width
  case neg =>
    rw [hfalse (by rw [hb, decide_eq_false c1]; rfl)]
    repeat (first | (with_reducible first | refine Way.imp ?_ | refine blk_o rfl ?_) | ((with_reducible refine WayR.imp (fun K hK => ?_)); simp (disch := first | omega | (simp only [dls]; omega)) only [std, reduceIte, reduceCtorEq, Int.reduceToNat, Nat.reduceAdd, Nat.reduceSub, Nat.reduceMul, Int.reduceAdd, Int.reduceSub, Int.reduceMul, Int.reduceNeg, fU, hwl, hdl, hwi, hdi, fI]; subst hK))
    exact ⟨_, rfl, rfl⟩
  by_cases c2 : (itAt s i).width ≤ 1048576
  case neg =>
    rw [hfalse (by rw [hb, decide_eq_false c2, Bool.and_false]; rfl)]
    repeat (first | (with_reducible first | refine Way.imp ?_ | refine blk_o rfl ?_) | ((with_reducible refine WayR.imp (fun K hK => ?_)); simp (disch := first | omega | (simp only [dls]; omega)) only [std, reduceIte, reduceCtorEq, Int.reduceToNat, Nat.reduceAdd, Nat.reduceSub, Nat.reduceMul, Int.reduceAdd, Int.reduceSub, Int.reduceMul, Int.reduceNeg, fU, hwl, hdl, hwi, hdi, fI]; subst hK))
    exact ⟨_, rfl, rfl⟩
  by_cases c3 : 0 ≤ (itAt s i).need
  case neg =>
    rw [hfalse (by rw [hb, decide_eq_false c3, Bool.false_and, Bool.and_false]; rfl)]
    repeat (first | (with_reducible first | refine Way.imp ?_ | refine blk_o rfl ?_) | ((with_reducible refine WayR.imp (fun K hK => ?_)); simp (disch := first | omega | (simp only [dls]; omega)) only [std, reduceIte, reduceCtorEq, Int.reduceToNat, Nat.reduceAdd, Nat.reduceSub, Nat.reduceMul, Int.reduceAdd, Int.reduceSub, Int.reduceMul, Int.reduceNeg, fU, hwl, hdl, hwi, hdi, fI]; subst hK))
    exact ⟨_, rfl, rfl⟩
  by_cases c4 : (itAt s i).need ≤ 1024
  case neg =>
    rw [hfalse (by rw [hb, decide_eq_false c4, Bool.and_false, Bool.and_false]; rfl)]
    repeat (first | (with_reducible first | refine Way.imp ?_ | refine blk_o rfl ?_) | ((with_reducible refine WayR.imp (fun K hK => ?_)); simp (disch := first | omega | (simp only [dls]; omega)) only [std, reduceIte, reduceCtorEq, Int.reduceToNat, Nat.reduceAdd, Nat.reduceSub, Nat.reduceMul, Int.reduceAdd, Int.reduceSub, Int.reduceMul, Int.reduceNeg, fU, hwl, hdl, hwi, hdi, fI]; subst hK))
    exact ⟨_, rfl, rfl⟩
  rw [decide_eq_true c1, decide_eq_true c2, decide_eq_true c3, decide_eq_true c4] at hb
  repeat (first | (with_reducible first | refine Way.imp ?_ | refine blk_o rfl ?_) | ((with_reducible refine WayR.imp (fun K hK => ?_)); simp (disch := first | omega | (simp only [dls]; omega)) only [std, reduceIte, reduceCtorEq, Int.reduceToNat, Nat.reduceAdd, Nat.reduceSub, Nat.reduceMul, Int.reduceAdd, Int.reduceSub, Int.reduceMul, Int.reduceNeg, fU, hwl, hdl, hwi, hdi, fI]; subst hK))
  refine ⟨(i + 1), ?hI2, ?hM2, Fgt.head (Nat.zero_le 1) [false, true, false, true] ?hT2 ?hH2⟩
  case hT2 => first | (simp (disch := omega) only [hds, liveT, cleanAV, cleanCell, clean1, cleanBlk, reduceIte, Int.reduceSub, Int.reduceAdd, Int.reduceNeg]; done) | rfl
  case hH2 => first | (simp (disch := omega) only [hds, liveT, cleanAV, cleanCell, clean1, cleanBlk, reduceIte, Int.reduceSub, Int.reduceAdd, Int.reduceNeg]; done) | rfl
  · exact ⟨Nat.succ_le_of_lt hlt, by rw [anyI_succ, hs, hb]; rfl⟩
  · show (osl s.items).length - (i + 1) < (osl s.items).length - i; omega
theorem right10_C (s : ST) (hl : (osl s.items).length ≤ 1000000) : PureC Try.prog 82 [aDs (dsOf s)] (.ret (aB (rightS s))) := right10_of s _ _ hl (isI_wid s) (isI_need s)

end Go.Proofs.Ytdhkdnmefeeclaa
