/- Walks of shape: Of. -/
import Derived.Test.YtdhkdnmefeeclaaX2
set_option linter.unusedSimpArgs false
set_option linter.unusedVariables false
set_option linter.unnecessarySimpa false
set_option linter.unusedSimpArgs false
set_option linter.unusedVariables false
set_option maxRecDepth 100000
set_option maxHeartbeats 4000000
namespace Go.Proofs.Ytdhkdnmefeeclaa
open Go Go.Am Go.Proofs Go.RowKit Go.Off

/-- A row made as long as asked. -/
def wideQ (l : VV) (n : Nat) : List Rat := ((osl l).map fun r => r.val) ++ List.replicate (n - (osl l).length) 0
theorem wideQ_len (l : VV) (n : Nat) (h : (osl l).length ≤ n) : (wideQ l n).length = n := by unfold wideQ; rw [List.length_append, List.length_map, List.length_replicate]; omega
theorem repI0 (n : Nat) : List.replicate n [Cell.c (.val (.int .i64 0))] = encB fI (List.replicate n 0) := by rw [encB_replicate]; rfl
theorem ints0 (n : Nat) (hn : n ≤ 1000000) : PureC Try.prog 57 [.one (.c (encSl 1 fI (some (List.replicate n 0))))] (.fresh 40 3 ((List.replicate n (rawQ 0)).map fR) (!decide (n = 0))) := by
  refine (ints_C (List.replicate n 0) (by rw [List.length_replicate]; exact hn) (fun k hk => by rw [(List.mem_replicate.1 hk).2]; decide)).to ?_
  rw [List.map_replicate]
  have : (!(List.replicate n (0 : Int)).isEmpty) = !decide (n = 0) := by cases n <;> rfl
  rw [this]
  rfl

abbrev c125 : CC := (.seq (.reg [⟨(some 3), none, (.mv (.const (.slice none 0 0)))⟩]) (.seq (.reg [⟨(some 5), none, (.load 1 false (.tmp 1))⟩, ⟨(some 6), none, (.make 3 1 8 [(.int .i64 (0))] (.tmp 5) (.tmp 5))⟩, ⟨(some 7), none, (.callf (.func 57) [(.tmp 6)])⟩, ⟨(some 4), none, (.mv (.tmp 7))⟩]) (.seq (.reg [⟨(some 8), none, (.mv (.tmp 4))⟩, ⟨(some 9), none, (.mv (.tmp 0))⟩, ⟨(some 10), none, (.callf (.func 59) [(.const (.int .i64 (1)))])⟩, ⟨(some 11), none, (.callf (.func 45) [(.tmp 9), (.tmp 10)])⟩, ⟨(some 12), none, (.copy 3 (.tmp 8) (.tmp 11))⟩]) (.seq (.reg [⟨(some 13), none, (.mv (.tmp 4))⟩, ⟨(some 3), none, (.mv (.tmp 13))⟩]) .ret))))
theorem cc125 : ccode Try.prog [] (Try.f125.body.getD .skip) = some c125 := by kernel_rfl
theorem body125 : Try.f125.body = some (Try.f125.body.getD .skip) := rfl

theorem sof1_C (l : VV) (n L : Nat) (hl : FitsV l n L) (hn : n ≤ 1000000) (hL : 1 ≤ L) (hL2 : L ≤ 1000000) :
    PureC Try.prog 125 [aV l, .one (.iptr [.val (.int .i64 (n : Int))])] (.fresh 40 3 (((wideQ l n).map rawQ).map fR) (!decide (n = 0))) := by
  have hints := ints0 n hn
  have hint := rint_C 1 (by omega) (by omega)
  rw [show ((1 : Int) : Rat) = 1 from rfl] at hint
  have hsc := vscale_R l (rawQ 1) n L hl (fits_rawQ (fitsQ_one L hL)) hn hL hL2
  have hsq : scaleQ l (rawQ 1).val = (osl l).map fun r => r.val := by unfold scaleQ; rw [rawQ_val]; simp only [Rat.mul_one]
  rw [hsq] at hsc
  have hl1 := hl.1
  have hsl : (osl (rowO (((osl l).map fun r => r.val).map rawQ))).length = (osl l).length := by rw [osl_rowO, List.length_map, List.length_map]
  refine pureC_of (rs := [(RV.tmp 3)]) Try.func125 (fun a w => Try.call125 a w) body125 cc125 (by kernel_rfl) ?_
  rw [Try.ntmps125]
  simp only [frs, Nat.reduceAdd, Nat.reduceSub]
  repeat (first | (with_reducible first | refine Way.imp ?_ | refine blk_o rfl ?_) | ((with_reducible refine WayR.imp (fun K hK => ?_)); simp (disch := first | omega | (simp only [dls]; omega)) only [std, reduceIte, reduceCtorEq, Int.reduceToNat, Nat.reduceAdd, Nat.reduceSub, Nat.reduceMul, Int.reduceAdd, Int.reduceSub, Int.reduceMul, Int.reduceNeg, fU, repI0]; subst hK) | (apply call_new (hints) rfl; (case hcl => (simp only [evs, St.ev, constAV, evl]; (repeat (first | exact closeAVs_nil | (apply closeAVs_cons; (first | (refine close_own3 rfl (by decide)) | (refine close_ownO rfl (by decide) ?_; assumption) | rfl)))); done)); (case hu => (simp only [evs, St.ev, constAV, evl]; (repeat (first | exact used_nil | (apply used_cons; (first | (apply used_own3; rfl) | rfl)))); done)); (case hh => ((simp only [fzl, Nat.reduceBEq, Nat.reduceAdd, Bool.false_eq_true, if_true, if_false, reduceIte]) <;> rfl))) | refine zcA (hint) rfl rfl rfl ?_ | refine zcA (hsc) rfl rfl rfl ?_)
  have hcp : List.take (List.replicate n (rawQ 0)).length (encB fR (osl (rowO (((osl l).map fun r => r.val).map rawQ)))) ++ List.drop (osl (rowO (((osl l).map fun r => r.val).map rawQ))).length (encB fR (List.replicate n (rawQ 0))) = encB fR ((wideQ l n).map rawQ) := by
    rw [hsl, osl_rowO, List.length_replicate, List.take_of_length_le (by rw [encB_length, List.length_map, List.length_map]; exact hl1)]
    unfold wideQ
    rw [List.map_append, ← encB_append, List.map_replicate]
    congr 1
    rw [encB_eq, encB_eq, ← List.map_drop, ← List.map_drop, List.drop_replicate]
  rw [hcp]
  refine ⟨_, rfl, ?_⟩
  exact Ends.fresh_enc rfl

end Go.Proofs.Ytdhkdnmefeeclaa
set_option linter.unusedSimpArgs false
set_option linter.unusedVariables false
set_option maxRecDepth 100000
set_option maxHeartbeats 4000000
namespace Go.Proofs.Ytdhkdnmefeeclaa
open Go Go.Am Go.Proofs Go.RowKit Go.Off

/-- How many of the first rows are no equations. -/
def slackN (m : MD) (k : Nat) : Nat := ((osl m.rows).take k).countP fun r => !decide (r.rel = 0)
theorem slackN_zero (m : MD) : slackN m 0 = 0 := rfl
theorem slackN_succ (m : MD) {k : Nat} (h : k < (osl m.rows).length) : slackN m (k + 1) = slackN m k + (if (osl m.rows)[k].rel = 0 then 0 else 1) := by
  unfold slackN
  rw [List.take_succ_eq_append_getElem h, List.countP_append, List.countP_singleton]
  by_cases h0 : (osl m.rows)[k].rel = 0
  · rw [if_pos h0, decide_eq_true h0]; rfl
  · rw [if_neg h0, decide_eq_false h0]; rfl
theorem slackN_le (m : MD) (k : Nat) : slackN m k ≤ k := by
  unfold slackN
  exact Nat.le_trans List.countP_le_length (by rw [List.length_take]; omega)
theorem slackN_mono (m : MD) {i k : Nat} (h : i ≤ k) : slackN m i ≤ slackN m k := by
  unfold slackN
  have : (osl m.rows).take i = ((osl m.rows).take k).take i := by rw [List.take_take, Nat.min_eq_left h]
  rw [this]
  exact List.Sublist.countP_le (List.take_sublist _ _)
abbrev aOf1 : Cell := .fn 125 [.ptr 2 0 0 0]
def ofN (m : MD) : Nat := (osl m.vars).length + slackN m (osl m.rows).length
def ofRow (m : MD) (i : Nat) : List Rat :=
  if (rwAt m i).rel = 0 then wideQ (rwAt m i).coef (ofN m) else (wideQ (rwAt m i).coef (ofN m)).set ((osl m.vars).length + slackN m i) ((0 - (rwAt m i).rel : Int) : Rat)
def ofA (m : MD) (k : Nat) : QM := (List.range k).map (ofRow m)
def ofB (m : MD) (k : Nat) : List Rat := (List.range k).map fun i => (rwAt m i).b.val
theorem ofA_succ (m : MD) (k : Nat) : ofA m (k + 1) = ofA m k ++ [ofRow m k] := by unfold ofA; rw [List.range_succ, List.map_append]; rfl
theorem ofB_succ (m : MD) (k : Nat) : ofB m (k + 1) = ofB m k ++ [(rwAt m k).b.val] := by unfold ofB; rw [List.range_succ, List.map_append]; rfl
def rowV (l : List Rat) : VV := rowO (l.map rawQ)
def ofP (m : MD) : PB := ⟨rowO ((ofA m (osl m.rows).length).map rowV), rowV (ofB m (osl m.rows).length), rowV (wideQ m.cost (ofN m))⟩
def FitsMd (m : MD) (n L : Nat) : Prop := FitsV m.cost n L ∧ ∀ r ∈ osl m.rows, FitsV r.coef n L ∧ Fits r.b L

theorem closeCV_ownO {α : Type} {g : α → List CV} {h : List Blk} {b ver ty e n : Nat} {live nn : Bool} {l : List α} (hk : h[b]? = some ⟨ver, ty, e, encB g l, live, nn⟩) (h0 : 0 < e) (hn : nn = !l.isEmpty) :
    closeCV h (n + 1) (.own b ver) = some (encSl e g (rowO l)) := by
  cases l with
  | nil =>
    have hn' : nn = false := by rw [hn]; rfl
    subst hn'
    simp [closeCV, hk, h0, encSl, rowO]
  | cons x l =>
    have hn' : nn = true := by rw [hn]; rfl
    subst hn'
    simp only [closeCV, hk, h0, and_self, if_true, mapM_encB, Option.map_some, encSl, rowO_cons]
/-- A problem of three rows of our own as a call hands it on. -/
theorem close_P {h : List Blk} {a b c va vb vc ta tb tc : Nat} {la lb lc na nb nc : Bool} {A : List VV} {B C : List RR} {x : CV} (h1 : h[a]? = some ⟨va, ta, 1, encB fM A, la, na⟩) (h2 : h[b]? = some ⟨vb, tb, 3, encB fR B, lb, nb⟩) (h3 : h[c]? = some ⟨vc, tc, 3, encB fR C, lc, nc⟩)
    (n1 : na = !A.isEmpty) (n2 : nb = !B.isEmpty) (n3 : nc = !C.isEmpty) :
    closeRes h (.tup [.agg [.own a va, .own b vb, .own c vc], .one (.c x)]) = some (.tup [aP ⟨rowO A, rowO B, rowO C⟩, .one (.c x)]) := by
  have e1 := closeCV_ownO (n := 2) h1 (by decide) n1
  have e2 := closeCV_ownO (n := 2) h2 (by decide) n2
  have e3 := closeCV_ownO (n := 2) h3 (by decide) n3
  unfold closeRes
  simp [closeAV, closeFn, closeCell, closeCV] at *
  simp [e1, e2, e3]
theorem wide_nn (l : VV) (n : Nat) (h : (osl l).length ≤ n) : (!decide (n = 0)) = !((wideQ l n).map rawQ).isEmpty := by
  have hl := wideQ_len l n h
  cases hw : wideQ l n with
  | nil => rw [hw] at hl; rw [decide_eq_true (by simpa using hl.symm)]; rfl
  | cons a t => rw [hw] at hl; rw [decide_eq_false (by simp at hl; omega)]; rfl

abbrev c72_k1 : CC := (.seq (.reg [⟨(some 84), none, (.load 3 true (.tmp 8))⟩, ⟨none, none, (.store 3 (.tmp 2) (.tmp 84))⟩, ⟨(some 3), none, (.mv (.const (.int .i64 (0))))⟩]) .ret)
abbrev c72_b1 : CC := (.seq (.reg [⟨(some 46), none, (.bin .lss (.tmp 45) (.tmp 44))⟩]) (.seq (.cond (.tmp 46) .skip (.exit 2)) (.seq (.block 3 (.seq (.reg [⟨(some 47), none, (.iaddr 6 none (.tmp 43) (.tmp 45))⟩, ⟨(some 48), none, (.load 6 true (.tmp 47))⟩, ⟨(some 11), none, (.new 96 [(.string ⟨#[]⟩), (.slice none 0 0), (.int .i64 (0)), (.bool false), (.slice none 0 0), (.slice none 0 0)])⟩, ⟨none, none, (.store 6 (.tmp 11) (.tmp 48))⟩]) (.seq (.reg [⟨(some 49), none, (.mv (.tmp 7))⟩, ⟨(some 50), none, (.faddr 1 (.tmp 11))⟩, ⟨(some 51), none, (.load 1 false (.tmp 50))⟩, ⟨(some 52), none, (.callf (.tmp 49) [(.tmp 51)])⟩, ⟨(some 12), none, (.mv (.tmp 52))⟩]) (.seq (.seq (.reg [⟨(some 53), none, (.faddr 2 (.tmp 11))⟩, ⟨(some 54), none, (.load 1 false (.tmp 53))⟩, ⟨(some 55), none, (.bin .neq (.tmp 54) (.const (.int .i64 (0))))⟩]) (.cond (.tmp 55) (.seq (.reg [⟨(some 56), none, (.mv (.tmp 12))⟩, ⟨(some 57), none, (.mv (.tmp 9))⟩, ⟨(some 58), none, (.faddr 2 (.tmp 11))⟩, ⟨(some 59), none, (.load 1 false (.tmp 58))⟩, ⟨(some 60), none, (.un .neg (.tmp 59))⟩, ⟨(some 61), none, (.callf (.func 59) [(.tmp 60)])⟩, ⟨(some 62), none, (.iaddr 3 none (.tmp 56) (.tmp 57))⟩, ⟨none, none, (.store 3 (.tmp 62) (.tmp 61))⟩]) (.reg [⟨(some 63), none, (.mv (.tmp 9))⟩, ⟨(some 64), none, (.bin .add (.tmp 63) (.const (.int .i64 (1))))⟩, ⟨(some 9), none, (.mv (.tmp 64))⟩])) .skip)) (.reg [⟨(some 65), none, (.faddr 0 (.tmp 8))⟩, ⟨(some 66), none, (.load 1 false (.tmp 65))⟩, ⟨(some 67), none, (.mv (.tmp 12))⟩, ⟨(some 68), none, (.mkrow 22 1 [(.tmp 67)])⟩, ⟨(some 69), none, (.append 22 1 24 (.tmp 66) (.tmp 68))⟩, ⟨(some 70), none, (.faddr 1 (.tmp 8))⟩, ⟨(some 71), none, (.load 1 false (.tmp 70))⟩, ⟨(some 72), none, (.faddr 3 (.tmp 11))⟩, ⟨(some 73), none, (.faddr 0 (.tmp 72))⟩, ⟨(some 74), none, (.load 2 true (.tmp 73))⟩, ⟨(some 75), none, (.faddr 3 (.tmp 11))⟩, ⟨(some 76), none, (.faddr 2 (.tmp 75))⟩, ⟨(some 77), none, (.load 1 false (.tmp 76))⟩, ⟨(some 78), none, (.callf (.func 91) [(.tmp 74), (.tmp 77)])⟩, ⟨(some 79), none, (.mkrow 40 3 [(.tmp 78)])⟩, ⟨(some 80), none, (.append 40 3 56 (.tmp 71) (.tmp 79))⟩, ⟨(some 81), none, (.faddr 0 (.tmp 8))⟩, ⟨none, none, (.store 1 (.tmp 81) (.tmp 69))⟩, ⟨(some 82), none, (.faddr 1 (.tmp 8))⟩, ⟨none, none, (.store 1 (.tmp 82) (.tmp 80))⟩]))))) (.reg [⟨(some 83), none, (.bin .add (.tmp 45) (.const (.int .i64 (1))))⟩, ⟨(some 45), none, (.mv (.tmp 83))⟩]))))
abbrev c72_k2 : CC := (.seq (.reg [⟨(some 33), none, (.mkfn 125 [(.tmp 4)])⟩, ⟨(some 7), none, (.mv (.tmp 33))⟩]) (.seq (.reg [⟨(some 34), none, (.mv (.tmp 7))⟩, ⟨(some 35), none, (.faddr 1 (.tmp 1))⟩, ⟨(some 36), none, (.load 1 false (.tmp 35))⟩, ⟨(some 37), none, (.callf (.tmp 34) [(.tmp 36)])⟩, ⟨(some 38), none, (.build [(.slice none 0 0), (.slice none 0 0), (.slice none 0 0)] [(2, (1, (.tmp 37)))])⟩, ⟨(some 8), none, (.new 86 [(.slice none 0 0), (.slice none 0 0), (.slice none 0 0)])⟩, ⟨none, none, (.store 3 (.tmp 8) (.tmp 38))⟩]) (.seq (.reg [⟨(some 39), none, (.faddr 0 (.tmp 1))⟩, ⟨(some 40), none, (.load 1 false (.tmp 39))⟩, ⟨(some 41), none, (.len false (.tmp 40))⟩, ⟨(some 9), none, (.mv (.tmp 41))⟩]) (.seq (.seq (.reg [⟨(some 42), none, (.faddr 2 (.tmp 1))⟩, ⟨(some 43), none, (.load 1 false (.tmp 42))⟩, ⟨(some 44), none, (.len false (.tmp 43))⟩, ⟨(some 45), none, (.mv (.const (.int .i64 (0))))⟩]) (.block 2 (.loop c72_b1))) c72_k1))))
abbrev c72_b2 : CC := (.seq (.reg [⟨(some 24), none, (.bin .lss (.tmp 23) (.tmp 22))⟩]) (.seq (.cond (.tmp 24) .skip (.exit 0)) (.seq (.block 1 (.seq (.reg [⟨(some 25), none, (.iaddr 6 none (.tmp 21) (.tmp 23))⟩, ⟨(some 26), none, (.load 6 true (.tmp 25))⟩, ⟨(some 6), none, (.new 96 [(.string ⟨#[]⟩), (.slice none 0 0), (.int .i64 (0)), (.bool false), (.slice none 0 0), (.slice none 0 0)])⟩, ⟨none, none, (.store 6 (.tmp 6) (.tmp 26))⟩]) (.seq (.reg [⟨(some 27), none, (.faddr 2 (.tmp 6))⟩, ⟨(some 28), none, (.load 1 false (.tmp 27))⟩, ⟨(some 29), none, (.bin .neq (.tmp 28) (.const (.int .i64 (0))))⟩]) (.cond (.tmp 29) (.reg [⟨(some 30), none, (.load 1 false (.tmp 4))⟩, ⟨(some 31), none, (.bin .add (.tmp 30) (.const (.int .i64 (1))))⟩, ⟨none, none, (.store 1 (.tmp 4) (.tmp 31))⟩]) .skip)))) (.reg [⟨(some 32), none, (.bin .add (.tmp 23) (.const (.int .i64 (1))))⟩, ⟨(some 23), none, (.mv (.tmp 32))⟩]))))
abbrev c72 : CC := (.seq (.reg [⟨(some 1), none, (.box 91 (.tmp 0))⟩, ⟨(some 2), none, (.new 86 [(.slice none 0 0), (.slice none 0 0), (.slice none 0 0)])⟩, ⟨(some 3), none, (.mv (.const (.int .i64 (0))))⟩]) (.seq (.seq (.reg [⟨(some 13), none, (.load 3 true (.tmp 1))⟩, ⟨(some 14), none, (.callf (.func 73) [(.tmp 13)])⟩, ⟨(some 15), none, (.un .not (.tmp 14))⟩]) (.cond (.tmp 15) (.seq (.reg [⟨(some 16), none, (.build [(.slice none 0 0), (.slice none 0 0), (.slice none 0 0)] [])⟩, ⟨none, none, (.store 3 (.tmp 2) (.tmp 16))⟩, ⟨(some 3), none, (.mv (.const (.int .i64 (1))))⟩]) .ret) .skip)) (.seq (.reg [⟨(some 17), none, (.faddr 0 (.tmp 1))⟩, ⟨(some 18), none, (.load 1 false (.tmp 17))⟩, ⟨(some 19), none, (.len false (.tmp 18))⟩, ⟨(some 4), none, (.new 3 [(.int .i64 (0))])⟩, ⟨none, none, (.store 1 (.tmp 4) (.tmp 19))⟩]) (.seq (.seq (.reg [⟨(some 20), none, (.faddr 2 (.tmp 1))⟩, ⟨(some 21), none, (.load 1 false (.tmp 20))⟩, ⟨(some 22), none, (.len false (.tmp 21))⟩, ⟨(some 23), none, (.mv (.const (.int .i64 (0))))⟩]) (.block 0 (.loop c72_b2))) c72_k2))))
theorem cc72 : ccode Try.prog [] (Try.f72.body.getD .skip) = some c72 := by kernel_rfl
theorem body72 : Try.f72.body = some (Try.f72.body.getD .skip) := rfl

theorem sof_no (m : MD) (hw : ∀ s ∈ osl m.vars, s.length ≤ 1000000) (hr : ∀ r ∈ osl m.rows, r.name.length ≤ 1000000) (h : rightMd m = false) : PureC Try.prog 72 [aMd m] (.ret (.tup [aP ⟨none, none, none⟩, aI 1])) := by
  have hm := mright_C m hw hr
  rw [h] at hm
  refine pureC_of (rs := [(RV.cell 2 3 true), (RV.tmp 3)]) Try.func72 (fun a w => Try.call72 a w) body72 cc72 (by kernel_rfl) ?_
  rw [Try.ntmps72]
  simp only [frs, Nat.reduceAdd, Nat.reduceSub]
  repeat (first | (with_reducible first | refine Way.imp ?_ | refine blk_o rfl ?_) | ((with_reducible refine WayR.imp (fun K hK => ?_)); simp (disch := first | omega | (simp only [dls]; omega)) only [std, reduceIte, reduceCtorEq, Int.reduceToNat, Nat.reduceAdd, Nat.reduceSub, Nat.reduceMul, Int.reduceAdd, Int.reduceSub, Int.reduceMul, Int.reduceNeg, fU]; subst hK) | refine zcA (hm) rfl rfl rfl ?_)
  exact ⟨_, rfl, rfl⟩

theorem sof_yes (m : MD) (n L : Nat) (hf : FitsMd m n L) (hn : n ≤ 1000) (hL : 1 ≤ L) (hL2 : L ≤ 1000000) (hw : ∀ s ∈ osl m.vars, s.length ≤ 1000000) (hr : ∀ r ∈ osl m.rows, r.name.length ≤ 1000000) (h : rightMd m = true) :
    PureC Try.prog 72 [aMd m] (.ret (.tup [aP (ofP m), aI 0])) := by
  have hm := mright_C m hw hr
  rw [h] at hm
  have h' := h
  unfold rightMd at h'
  simp only [Bool.and_eq_true, decide_eq_true_eq] at h'
  obtain ⟨hv60, hcl, hr60, _, _, hbad⟩ := h'
  have hbad' : anyI (mdBad m) (osl m.rows).length = false := by simpa using hbad
  have hrow : ∀ i (hi : i < (osl m.rows).length), (osl (osl m.rows)[i].coef).length = (osl m.vars).length ∧ -1 ≤ (osl m.rows)[i].rel ∧ (osl m.rows)[i].rel ≤ 1 := fun i hi => by
    have := anyI_false hbad' hi
    unfold mdBad rwBad at this
    rw [rwAt_in hi] at this
    simpa using this
  have hsn := slackN_le m (osl m.rows).length
  have hnn : ofN m = (osl m.vars).length + slackN m (osl m.rows).length := rfl
  refine pureC_of (rs := [(RV.cell 2 3 true), (RV.tmp 3)]) Try.func72 (fun a w => Try.call72 a w) body72 cc72 (by kernel_rfl) ?_
  rw [Try.ntmps72]
  simp only [frs, Nat.reduceAdd, Nat.reduceSub]
  repeat (first | (with_reducible first | refine Way.imp ?_ | refine blk_o rfl ?_) | ((with_reducible refine WayR.imp (fun K hK => ?_)); simp (disch := first | omega | (simp only [dls]; omega)) only [std, reduceIte, reduceCtorEq, Int.reduceToNat, Nat.reduceAdd, Nat.reduceSub, Nat.reduceMul, Int.reduceAdd, Int.reduceSub, Int.reduceMul, Int.reduceNeg, fU]; subst hK) | refine zcA (hm) rfl rfl rfl ?_)
  refine awp_loop (fun (zz : Nat) => ⟨(.junk :: .one (.ptr 0 0 0 0) :: .one (.ptr 1 0 0 0) :: .junk :: .one (.ptr 2 0 0 0) :: .junk :: .junk :: .junk :: .junk :: .junk :: .junk :: .junk :: .junk :: .junk :: .junk :: .junk :: .junk :: .junk :: .junk :: .junk :: .junk :: .one (.c (encSl 6 fRow m.rows)) :: aI (osl m.rows).length :: aI zz :: .junk :: .junk :: .junk :: .junk :: .junk :: .junk :: .junk :: .junk :: .junk :: .junk :: .junk :: .junk :: .junk :: .junk :: .junk :: .junk :: .junk :: .junk :: .junk :: .junk :: .junk :: .junk :: .junk :: .junk :: .junk :: .junk :: .junk :: .junk :: .junk :: .junk :: .junk :: .junk :: .junk :: .junk :: .junk :: .junk :: .junk :: .junk :: .junk :: .junk :: .junk :: .junk :: .junk :: .junk :: .junk :: .junk :: .junk :: .junk :: .junk :: .junk :: .junk :: .junk :: .junk :: .junk :: .junk :: .junk :: .junk :: .junk :: .junk :: .junk :: .junk :: []), [⟨0, 91, 3, [[.c (encSl 1 fW m.vars), .c (vr m.cost), .c (encSl 6 fRow m.rows)]], true, true⟩, ⟨0, 86, 3, [[.c (.val (.slice none 0 0)), .c (.val (.slice none 0 0)), .c (.val (.slice none 0 0))]], true, true⟩, ⟨0, 3, 1, [[.c (.val (.int .i64 (((osl m.vars).length + slackN m zz : Nat) : Int)))]], true, true⟩]⟩) (fun (zz : Nat) => zz ≤ (osl m.rows).length) (fun (zz : Nat) => (osl m.rows).length - zz) (0) ?hI1 (Fgt.head (Nat.zero_le 3) [false, true, true, false, true, false, false, false, false, false, false, false, false, false, false, false, false, false, false, false, false, true, true, true] ?hT1 ?hH1) ?hB1
  case hT1 => first | (simp (disch := omega) only [hds, liveT, cleanAV, cleanCell, clean1, cleanBlk, reduceIte, Int.reduceSub, Int.reduceAdd, Int.reduceNeg, slackN_zero, Nat.add_zero]; done) | rfl
  case hH1 => first | (simp (disch := omega) only [hds, liveT, cleanAV, cleanCell, clean1, cleanBlk, reduceIte, Int.reduceSub, Int.reduceAdd, Int.reduceNeg, slackN_zero, Nat.add_zero]; done) | rfl
  · exact Nat.zero_le _
  rintro i hi
  by_cases him : i = (osl m.rows).length
  case neg =>
    have hlt : i < (osl m.rows).length := by omega
    have hsl := slackN_le m i
    have hss := slackN_succ m hlt
    by_cases h0 : (osl m.rows)[i].rel = 0
    · rw [if_pos h0] at hss
      repeat (first | (with_reducible first | refine Way.imp ?_ | refine blk_o rfl ?_) | ((with_reducible refine WayR.imp (fun K hK => ?_)); simp (disch := first | omega | (simp only [dls]; omega)) only [std, reduceIte, reduceCtorEq, Int.reduceToNat, Nat.reduceAdd, Nat.reduceSub, Nat.reduceMul, Int.reduceAdd, Int.reduceSub, Int.reduceMul, Int.reduceNeg, fU, fRow]; subst hK))
      refine ⟨(i + 1), ?hI2, ?hM2, Fgt.head (Nat.zero_le 3) [false, true, true, false, true, false, false, false, false, false, false, false, false, false, false, false, false, false, false, false, false, true, true, true] ?hT2 ?hH2⟩
      case hT2 => first | (simp (disch := omega) only [hds, liveT, cleanAV, cleanCell, clean1, cleanBlk, reduceIte, Int.reduceSub, Int.reduceAdd, Int.reduceNeg, hss, Nat.add_zero]; done) | rfl
      case hH2 => first | (simp (disch := omega) only [hds, liveT, cleanAV, cleanCell, clean1, cleanBlk, reduceIte, Int.reduceSub, Int.reduceAdd, Int.reduceNeg, hss, Nat.add_zero]; done) | rfl
      · omega
      · omega
    · rw [if_neg h0] at hss
      have hss2 : (((osl m.vars).length + slackN m (i + 1) : Nat) : Int) = ((osl m.vars).length + slackN m i : Nat) + 1 := by omega
      repeat (first | (with_reducible first | refine Way.imp ?_ | refine blk_o rfl ?_) | ((with_reducible refine WayR.imp (fun K hK => ?_)); simp (disch := first | omega | (simp only [dls]; omega)) only [std, reduceIte, reduceCtorEq, Int.reduceToNat, Nat.reduceAdd, Nat.reduceSub, Nat.reduceMul, Int.reduceAdd, Int.reduceSub, Int.reduceMul, Int.reduceNeg, fU, fRow]; subst hK))
      refine ⟨(i + 1), ?hI3, ?hM3, Fgt.head (Nat.zero_le 3) [false, true, true, false, true, false, false, false, false, false, false, false, false, false, false, false, false, false, false, false, false, true, true, true] ?hT3 ?hH3⟩
      case hT3 => first | (simp (disch := omega) only [hds, liveT, cleanAV, cleanCell, clean1, cleanBlk, reduceIte, Int.reduceSub, Int.reduceAdd, Int.reduceNeg, hss2]; done) | rfl
      case hH3 => first | (simp (disch := omega) only [hds, liveT, cleanAV, cleanCell, clean1, cleanBlk, reduceIte, Int.reduceSub, Int.reduceAdd, Int.reduceNeg, hss2]; done) | rfl
      · omega
      · omega
  rw [him, ← hnn]
  have hcost := sof1_C m.cost (ofN m) L ⟨by omega, hf.1.2⟩ (by omega) hL hL2
  have hone : ∀ i (hi : i < (osl m.rows).length), PureC Try.prog 125 [aV (osl m.rows)[i].coef, .one (.iptr [.val (.int .i64 ((ofN m : Nat) : Int))])] (.fresh 40 3 (((wideQ (osl m.rows)[i].coef (ofN m)).map rawQ).map fR) (!decide (ofN m = 0))) := fun i hi =>
    sof1_C _ (ofN m) L ⟨by have := (hrow i hi).1; omega, (hf.2 _ (List.getElem_mem hi)).1.2⟩ (by omega) hL hL2
  repeat (first | (with_reducible first | refine Way.imp ?_ | refine blk_o rfl ?_) | ((with_reducible refine WayR.imp (fun K hK => ?_)); simp (disch := first | omega | (simp only [dls]; omega)) only [std, reduceIte, reduceCtorEq, Int.reduceToNat, Nat.reduceAdd, Nat.reduceSub, Nat.reduceMul, Int.reduceAdd, Int.reduceSub, Int.reduceMul, Int.reduceNeg, fU]; subst hK) | (apply call_newV (ids := [2]) (hcost) rfl; (case hcl => (simp only [evs, St.ev, constAV, evl]; (repeat (first | exact closeAVs_nil | (apply closeAVs_cons; (first | (refine close_own3 rfl (by decide)) | (refine close_ownO rfl (by decide) ?_; assumption) | rfl)))); done)); (case hu => rfl); (case hh => ((simp only [fzl, Nat.reduceBEq, Nat.reduceAdd, Bool.false_eq_true, if_true, if_false, reduceIte]) <;> rfl))))
  refine AWp.fgt ?_ (Fgt.phantom _ 22 1)
  refine AWp.fgt ?_ (Fgt.phantom _ 40 3)
  refine AWp.fgt ?_ (Fgt.cellsOpen (b := 4) (els' := [[.own 5 0, .own 6 0, .own 3 0]]) rfl (.cons (.cons (.inr ⟨rfl, 5, _, rfl, rfl, rfl⟩) (.cons (.inr ⟨rfl, 6, _, rfl, rfl, rfl⟩) (.cons (.inl rfl) .nil))) .nil))
  simp only [List.cons_append, List.nil_append, List.set_cons_succ, List.set_cons_zero]
  refine awp_loop (fun (zz : Nat × (List VV) × (List RR) × Nat × Nat × Bool × Bool) => ⟨(.junk :: .one (.ptr 0 0 0 0) :: .one (.ptr 1 0 0 0) :: .junk :: .junk :: .junk :: .junk :: .one aOf1 :: .one (.ptr 4 0 0 0) :: aI ((osl m.vars).length + slackN m zz.1 : Nat) :: .junk :: .junk :: .junk :: .junk :: .junk :: .junk :: .junk :: .junk :: .junk :: .junk :: .junk :: .junk :: .junk :: .junk :: .junk :: .junk :: .junk :: .junk :: .junk :: .junk :: .junk :: .junk :: .junk :: .junk :: .junk :: .junk :: .junk :: .junk :: .junk :: .junk :: .junk :: .junk :: .junk :: .one (.c (encSl 6 fRow m.rows)) :: aI (osl m.rows).length :: aI zz.1 :: .junk :: .junk :: .junk :: .junk :: .junk :: .junk :: .junk :: .junk :: .junk :: .junk :: .junk :: .junk :: .junk :: .junk :: .junk :: .junk :: .junk :: .junk :: .junk :: .junk :: .junk :: .junk :: .junk :: .junk :: .junk :: .junk :: .junk :: .junk :: .junk :: .junk :: .junk :: .junk :: .junk :: .junk :: .junk :: .junk :: .junk :: .junk :: .junk :: []), [⟨0, 91, 3, [[.c (encSl 1 fW m.vars), .c (vr m.cost), .c (encSl 6 fRow m.rows)]], true, true⟩, ⟨0, 86, 3, [[.c (.val (.slice none 0 0)), .c (.val (.slice none 0 0)), .c (.val (.slice none 0 0))]], true, true⟩, ⟨0, 3, 1, [[.c (.val (.int .i64 ((ofN m : Nat) : Int)))]], false, true⟩, ⟨0, 40, 3, encB fR ((wideQ m.cost (ofN m)).map rawQ), true, !decide (ofN m = 0)⟩, ⟨0, 86, 3, [[.own 5 zz.2.2.2.1, .own 6 zz.2.2.2.2.1, .own 3 0]], true, true⟩, ⟨zz.2.2.2.1, 22, 1, encB fM zz.2.1, true, zz.2.2.2.2.2.1⟩, ⟨zz.2.2.2.2.1, 40, 3, encB fR zz.2.2.1, true, zz.2.2.2.2.2.2⟩]⟩) (fun (zz : Nat × (List VV) × (List RR) × Nat × Nat × Bool × Bool) => zz.1 ≤ (osl m.rows).length ∧ zz.2.1 = (ofA m zz.1).map rowV ∧ zz.2.2.1 = (ofB m zz.1).map rawQ ∧ zz.2.2.2.2.2.1 = !zz.2.1.isEmpty ∧ zz.2.2.2.2.2.2 = !zz.2.2.1.isEmpty) (fun (zz : Nat × (List VV) × (List RR) × Nat × Nat × Bool × Bool) => (osl m.rows).length - zz.1) (0, [], [], 0, 0, false, false) ?hI4 (Fgt.head (Nat.zero_le 7) (false :: true :: true :: false :: false :: false :: false :: true :: true :: true :: false :: false :: false :: false :: false :: false :: false :: false :: false :: false :: false :: false :: false :: false :: false :: false :: false :: false :: false :: false :: false :: false :: false :: false :: false :: false :: false :: false :: false :: false :: false :: false :: false :: true :: true :: true :: []) ?hT4 ?hH4) ?hB4
  case hT4 => first | (simp (disch := omega) only [hds, liveT, cleanAV, cleanCell, clean1, cleanBlk, reduceIte, Int.reduceSub, Int.reduceAdd, Int.reduceNeg, slackN_zero, Nat.add_zero, encB_nil]; done) | rfl
  case hH4 => first | (simp (disch := omega) only [hds, liveT, cleanAV, cleanCell, clean1, cleanBlk, reduceIte, Int.reduceSub, Int.reduceAdd, Int.reduceNeg, slackN_zero, Nat.add_zero, encB_nil]; done) | rfl
  · dsimp only; exact ⟨Nat.zero_le _, rfl, rfl, rfl, rfl⟩
  rintro ⟨i, out, bs, va, vb, na, nb⟩ ⟨hi2, ho, hb, hna, hnb⟩
  dsimp only at hi2 ho hb hna hnb
  by_cases hin : i = (osl m.rows).length
  · repeat (first | (with_reducible first | refine Way.imp ?_ | refine blk_o rfl ?_) | ((with_reducible refine WayR.imp (fun K hK => ?_)); simp (disch := first | omega | (simp only [dls]; omega)) only [std, reduceIte, reduceCtorEq, Int.reduceToNat, Nat.reduceAdd, Nat.reduceSub, Nat.reduceMul, Int.reduceAdd, Int.reduceSub, Int.reduceMul, Int.reduceNeg, fU]; subst hK))
    refine ⟨_, rfl, ?_⟩
    rw [hin] at ho hb
    show closeRes _ (.tup [.agg [.own 5 va, .own 6 vb, .own 3 0], .one (.c (.val (.int .i64 0)))]) = _
    rw [close_P (A := out) (B := bs) (C := (wideQ m.cost (ofN m)).map rawQ) rfl rfl rfl hna hnb (wide_nn _ _ (by omega)), ho, hb]
    rfl
  · have hlt : i < (osl m.rows).length := by omega
    obtain ⟨hcf, hr1, hr2⟩ := hrow i hlt
    have hrw := hone i hlt
    have hfb := (hf.2 _ (List.getElem_mem hlt)).2
    have hmk := rmake_C (RRnum (osl m.rows)[i].b) (osl m.rows)[i].b.den (Nat.le_trans hfb.1 (by omega)) (Nat.le_trans hfb.2 (by omega))
    rw [num_top, denR_bot] at hmk
    change PureC _ _ _ (.ret (aR (rawQ (osl m.rows)[i].b.val))) at hmk
    have hss := slackN_succ m hlt
    have hmo := slackN_mono m (show i + 1 ≤ (osl m.rows).length from hlt)
    have hol : out.length = i := by rw [ho, List.length_map]; unfold ofA; rw [List.length_map, List.length_range]
    have hbl : bs.length = i := by rw [hb, List.length_map]; unfold ofB; rw [List.length_map, List.length_range]
    have hwl : ((wideQ (osl m.rows)[i].coef (ofN m)).map rawQ).length = ofN m := by rw [List.length_map, wideQ_len _ _ (by omega)]
    by_cases h0 : (osl m.rows)[i].rel = 0
    · have hss1 : slackN m (i + 1) = slackN m i := by rw [if_pos h0] at hss; omega
      repeat (first | (with_reducible first | refine Way.imp ?_ | refine blk_o rfl ?_) | ((with_reducible refine WayR.imp (fun K hK => ?_)); simp (disch := first | omega | (simp only [dls]; omega)) only [std, reduceIte, reduceCtorEq, Int.reduceToNat, Nat.reduceAdd, Nat.reduceSub, Nat.reduceMul, Int.reduceAdd, Int.reduceSub, Int.reduceMul, Int.reduceNeg, fU, fRow]; subst hK) | (apply call_newV (ids := [2]) (hrw) rfl; (case hcl => (simp only [evs, St.ev, constAV, evl]; (repeat (first | exact closeAVs_nil | (apply closeAVs_cons; (first | (refine close_own3 rfl (by decide)) | (refine close_ownO rfl (by decide) ?_; assumption) | rfl)))); done)); (case hu => rfl); (case hh => ((simp only [fzl, Nat.reduceBEq, Nat.reduceAdd, Bool.false_eq_true, if_true, if_false, reduceIte]) <;> rfl))) | refine zcA (hmk) rfl rfl rfl ?_)
      have hor : ofRow m i = wideQ (osl m.rows)[i].coef (ofN m) := by unfold ofRow; rw [rwAt_in hlt, if_pos h0]
      rw [← hor]
      refine ⟨(i + 1, out ++ [rowV (ofRow m i)], bs ++ [rawQ (osl m.rows)[i].b.val], va + 1, vb + 1, true, true), ⟨by dsimp only; omega, ?_, ?_, ?_, ?_⟩, by dsimp only; omega, Fgt.trans (Fgt.cellSnocO (b := 5) (c := 8) (f := fM) (l := out) (g := fR) (r := (ofRow m i).map rawQ) (x := rowV (ofRow m i)) rfl rfl (by decide) (by rw [hor]; exact wide_nn _ _ (by omega)) rfl (by decide)) ?_⟩
      · dsimp only; rw [ho, ofA_succ, List.map_append]; rfl
      · dsimp only; rw [hb, ofB_succ, List.map_append, rwAt_in hlt]; rfl
      · dsimp only; cases out <;> rfl
      · dsimp only; cases bs <;> rfl
      · rw [freeze_from]
        simp only [fzl, Nat.reduceBEq, Nat.reduceAdd, Bool.false_eq_true, if_true, if_false, reduceIte, List.set_cons_zero, List.set_cons_succ, encB_snoc_row]
        refine Fgt.head (Nat.zero_le 7) (false :: true :: true :: false :: false :: false :: false :: true :: true :: true :: false :: false :: false :: false :: false :: false :: false :: false :: false :: false :: false :: false :: false :: false :: false :: false :: false :: false :: false :: false :: false :: false :: false :: false :: false :: false :: false :: false :: false :: false :: false :: false :: false :: true :: true :: true :: []) ?hT5 ?hH5
        case hT5 => first | (simp (disch := omega) only [hds, liveT, cleanAV, cleanCell, clean1, cleanBlk, reduceIte, Int.reduceSub, Int.reduceAdd, Int.reduceNeg, List.isEmpty_cons, Bool.or_true, Bool.not_false, hss1, aOf1, List.map_cons, List.map_nil]; done) | rfl
        case hH5 => first | (simp (disch := omega) only [hds, liveT, cleanAV, cleanCell, clean1, cleanBlk, reduceIte, Int.reduceSub, Int.reduceAdd, Int.reduceNeg, List.isEmpty_cons, Bool.or_true, Bool.not_false, hss1, aOf1, List.map_cons, List.map_nil]; done) | rfl
    · rw [if_neg h0] at hss
      have hss2 : (((osl m.vars).length + slackN m (i + 1) : Nat) : Int) = ((osl m.vars).length + slackN m i : Nat) + 1 := by omega
      have hfl : ∀ x : RR, (List.map Cell.c (fR x)).length = 3 := fun x => rfl
      have hdr : ∀ x : RR, List.drop 3 (List.map Cell.c (fR x)) = [] := fun x => rfl
      have hN0 : decide (ofN m = 0) = false := decide_eq_false (by omega)
      have hsR : ∀ (l : List RR) (k : Nat) (r : RR), (encB fR l).set k [Cell.c (.val (.bool r.minus)), Cell.c (nr r.size), Cell.c (nr r.den)] = encB fR (l.set k r) := fun l k r => encB_set l k r
      have hint := rint_C (0 - (osl m.rows)[i].rel) (by omega) (by omega)
      repeat (first | (with_reducible first | refine Way.imp ?_ | refine blk_o rfl ?_) | ((with_reducible refine WayR.imp (fun K hK => ?_)); simp (disch := first | omega | (simp only [dls]; omega)) only [std, reduceIte, reduceCtorEq, Int.reduceToNat, Nat.reduceAdd, Nat.reduceSub, Nat.reduceMul, Int.reduceAdd, Int.reduceSub, Int.reduceMul, Int.reduceNeg, fU, fRow, hwl, hfl, hdr, hsR]; subst hK) | (apply call_newV (ids := [2]) (hrw) rfl; (case hcl => (simp only [evs, St.ev, constAV, evl]; (repeat (first | exact closeAVs_nil | (apply closeAVs_cons; (first | (refine close_own3 rfl (by decide)) | (refine close_ownO rfl (by decide) ?_; assumption) | rfl)))); done)); (case hu => rfl); (case hh => ((simp only [fzl, Nat.reduceBEq, Nat.reduceAdd, Bool.false_eq_true, if_true, if_false, reduceIte]) <;> rfl))) | refine zcA (hint) rfl rfl rfl ?_ | refine zcA (hmk) rfl rfl rfl ?_)
      have hor : ofRow m i = (wideQ (osl m.rows)[i].coef (ofN m)).set ((osl m.vars).length + slackN m i) ((0 - (osl m.rows)[i].rel : Int) : Rat) := by unfold ofRow; rw [rwAt_in hlt, if_neg h0]
      have hmr : (ofRow m i).map rawQ = ((wideQ (osl m.rows)[i].coef (ofN m)).map rawQ).set ((osl m.vars).length + slackN m i) (rawQ ((0 - (osl m.rows)[i].rel : Int) : Rat)) := by rw [hor, List.map_set]
      rw [← hmr]
      refine ⟨(i + 1, out ++ [rowV (ofRow m i)], bs ++ [rawQ (osl m.rows)[i].b.val], va + 1, vb + 1, true, true), ⟨by dsimp only; omega, ?_, ?_, ?_, ?_⟩, by dsimp only; omega, Fgt.trans (Fgt.cellSnocO (b := 5) (c := 8) (f := fM) (l := out) (g := fR) (r := (ofRow m i).map rawQ) (x := rowV (ofRow m i)) rfl rfl (by decide) (by
        cases hq : (ofRow m i).map rawQ with
        | nil => exfalso; have := congrArg List.length hq; rw [List.length_map, hor, List.length_set, wideQ_len _ _ (by omega)] at this; simp at this; omega
        | cons a t => rfl) rfl (by decide)) ?_⟩
      · dsimp only; rw [ho, ofA_succ, List.map_append]; rfl
      · dsimp only; rw [hb, ofB_succ, List.map_append, rwAt_in hlt]; rfl
      · dsimp only; cases out <;> rfl
      · dsimp only; cases bs <;> rfl
      · rw [freeze_from]
        simp only [fzl, Nat.reduceBEq, Nat.reduceAdd, Bool.false_eq_true, if_true, if_false, reduceIte, List.set_cons_zero, List.set_cons_succ, encB_snoc_row]
        refine Fgt.head (Nat.zero_le 7) (false :: true :: true :: false :: false :: false :: false :: true :: true :: true :: false :: false :: false :: false :: false :: false :: false :: false :: false :: false :: false :: false :: false :: false :: false :: false :: false :: false :: false :: false :: false :: false :: false :: false :: false :: false :: false :: false :: false :: false :: false :: false :: false :: true :: true :: true :: []) ?hT6 ?hH6
        case hT6 => first | (simp (disch := omega) only [hds, liveT, cleanAV, cleanCell, clean1, cleanBlk, reduceIte, Int.reduceSub, Int.reduceAdd, Int.reduceNeg, List.isEmpty_cons, Bool.or_true, Bool.not_false, hss2, hN0, aOf1, List.map_cons, List.map_nil]; done) | rfl
        case hH6 => first | (simp (disch := omega) only [hds, liveT, cleanAV, cleanCell, clean1, cleanBlk, reduceIte, Int.reduceSub, Int.reduceAdd, Int.reduceNeg, List.isEmpty_cons, Bool.or_true, Bool.not_false, hss2, hN0, aOf1, List.map_cons, List.map_nil]; done) | rfl

end Go.Proofs.Ytdhkdnmefeeclaa
