/- Walks of lines: Name. -/
import Derived.Laws.RangeString
import Derived.LoopTactic
import Derived.Test.YtdhkdnmefeeclaaX1
set_option linter.unusedSimpArgs false
set_option linter.unusedVariables false
set_option linter.unnecessarySimpa false
set_option linter.unusedSimpArgs false
set_option linter.unusedVariables false
set_option maxRecDepth 100000
set_option maxHeartbeats 4000000
namespace Go.Proofs.Ytdhkdnmefeeclaa
open Go Go.Am Go.Proofs Go.RowKit Go.Off

/-- May a rune stand at a place of a name? -/
def nmOk (pos : Nat) (c : Int) : Bool := decide (97 ≤ c ∧ c ≤ 122) || (!decide (pos = 0) && (decide (c = 95) || decide (48 ≤ c ∧ c ≤ 57)))
def nmF (s : ByteArray) : Nat → Nat → Bool
  | 0, _ => true
  | b + 1, pos => if pos < s.size then nmOk pos (Utf8.decode s pos).1 && nmF s b (pos + (Utf8.decode s pos).2) else true
def nameB (s : ByteArray) : Bool := nmF s s.size 0 && (decide (1 ≤ s.size) && decide (s.size ≤ 16))

theorem nm_width (s : ByteArray) (pos : Nat) (h : pos < s.size) : 1 ≤ (Utf8.decode s pos).2 := by
  by_cases ha : (s[pos]'h).toNat < 128
  · rw [decode_ascii s pos h ha]
    exact Nat.le_refl _
  · exact (decode_high s pos h (by omega)).2
theorem nmF_end (s : ByteArray) (b pos : Nat) (h : ¬ pos < s.size) : nmF s b pos = true := by
  cases b with
  | zero => rfl
  | succ b => simp [nmF, h]

theorem nmF_no {s : ByteArray} {b pos : Nat} (hp : pos < s.size) (hb : s.size ≤ pos + b) (h : nmOk pos (Utf8.decode s pos).1 = false) : nmF s b pos = false := by
  cases b with
  | zero => omega
  | succ b => unfold nmF; rw [if_pos hp, h]; rfl
theorem nmF_yes {s : ByteArray} {b pos : Nat} (hp : pos < s.size) (hb : s.size ≤ pos + b) (h : nmOk pos (Utf8.decode s pos).1 = true) : ∃ c, nmF s b pos = nmF s c (pos + (Utf8.decode s pos).2) ∧ s.size ≤ pos + (Utf8.decode s pos).2 + c := by
  have hw := nm_width s pos hp
  cases b with
  | zero => omega
  | succ b =>
    refine ⟨b, ?_, by omega⟩
    show (if pos < s.size then nmOk pos (Utf8.decode s pos).1 && nmF s b (pos + (Utf8.decode s pos).2) else true) = _
    rw [if_pos hp, h, Bool.true_and]
theorem nmOk_no {pos : Nat} {c : Int} (h1 : ¬ (97 ≤ c ∧ c ≤ 122)) (h2 : pos = 0 ∨ (c ≠ 95 ∧ ¬ (48 ≤ c ∧ c ≤ 57))) : nmOk pos c = false := by
  unfold nmOk
  rw [decide_eq_false h1, Bool.false_or]
  rcases h2 with h2 | ⟨h2, h3⟩
  · rw [decide_eq_true h2]; rfl
  · rw [decide_eq_false h2, decide_eq_false h3]; simp
theorem nmOk_yes {pos : Nat} {c : Int} (h : (97 ≤ c ∧ c ≤ 122) ∨ (pos ≠ 0 ∧ (c = 95 ∨ (48 ≤ c ∧ c ≤ 57)))) : nmOk pos c = true := by
  unfold nmOk
  rcases h with h | ⟨h1, h2⟩
  · rw [decide_eq_true h]; rfl
  · rw [decide_eq_false h1]
    rcases h2 with h2 | h2
    · rw [decide_eq_true h2]; simp
    · rw [decide_eq_true h2]; simp

set_option maxRecDepth 1000000 in
theorem name_walk (s : ByteArray) (w : World) (hs : s.size ≤ 9223372036854775807) :
    Calls Try.prog 167 #[.string s] w fun e w' => e = .returned (.bool (nameB s)) ∧ ∃ pos, w' = w.iter s pos := by
  go_enter Try.func167, Try.ntmps167
  go_wp2
  go_loopw [2] (fun n w' => ∃ (pos b : Nat), w' = w.iter s pos ∧ n = .bool false ∧ nmF s b pos = nmF s s.size 0 ∧ s.size ≤ pos + b) (fun _ w' => s.size - w'.iterPos w.heap.size)
  case atStart => exact ⟨0, s.size, rfl, rfl, rfl, by omega⟩
  case round =>
    obtain ⟨pos, b, rfl, rfl, hc, hb⟩ := hrel
    by_cases hp : pos < s.size
    · have hnx : ∀ ty, (Instr.next (.pointer (some ⟨w.heap.size, 0, none⟩)) true ty).run Try.prog (w.iter s pos) = _ := fun ty => run_next_any w s pos ty hp
      have hyes := nmF_yes hp hb
      have hno := nmF_no hp hb
      have hwd := nm_width s pos hp
      rw [hc] at hno hyes
      by_cases h0 : pos = 0
      · subst h0
        go_wp2
        all_goals (try simp only [Bool.not_eq_true', Bool.not_eq_false', decide_eq_true_eq, decide_eq_false_iff_not, beq_iff_eq, beq_eq_false_iff_ne, bne_iff_ne, bne_eq_false_iff_eq, ne_eq, Decidable.not_not] at *)
        all_goals first
          | (go_ret
             refine ⟨?_, _, rfl⟩
             have hn : nameB s = false := by unfold nameB; rw [hno (nmOk_no (by omega) (by omega))]; rfl
             rw [hn]
             rfl)
          | (obtain ⟨d, hd, hd2⟩ := hyes (nmOk_yes (by omega))
             refine ⟨⟨_, d, rfl, by first | rfl | trivial, ?_, ?_⟩, ?_⟩
             · simpa using hd.symm
             · simpa using hd2
             · simp
               omega)
      · go_wp2
        all_goals (try simp only [Bool.not_eq_true', Bool.not_eq_false', decide_eq_true_eq, decide_eq_false_iff_not, beq_iff_eq, beq_eq_false_iff_ne, bne_iff_ne, bne_eq_false_iff_eq, ne_eq, Decidable.not_not] at *)
        all_goals first
          | (go_ret
             refine ⟨?_, _, rfl⟩
             have hn : nameB s = false := by unfold nameB; rw [hno (nmOk_no (by omega) (by omega))]; rfl
             rw [hn]
             rfl)
          | (obtain ⟨d, hd, hd2⟩ := hyes (nmOk_yes (by omega))
             refine ⟨⟨_, d, rfl, by first | rfl | trivial, ?_, ?_⟩, ?_⟩
             · simpa using hd.symm
             · simpa using hd2
             · simp
               omega)
    · have hnx : ∀ ty, (Instr.next (.pointer (some ⟨w.heap.size, 0, none⟩)) true ty).run Try.prog (w.iter s pos) = _ := fun ty => run_next_end w s pos ty hp
      go_wp2
      all_goals (
        go_ret
        rw [nmF_end s b pos hp] at hc
        refine ⟨?_, _, rfl⟩
        unfold nameB
        rw [← hc, Bool.true_and]
        first
          | (rw [decide_eq_true (show 1 ≤ s.size by omega), Bool.true_and]
             have he : decide (((s.size : Nat) : Int) ≤ 16) = decide (s.size ≤ 16) := by rw [decide_eq_decide]; omega
             rw [← he]
             rfl)
          | (rw [decide_eq_false (show ¬ 1 ≤ s.size by omega), Bool.false_and]
             rfl))

/-- A word's bytes. -/
def bytesOf (s : List UInt8) : ByteArray := ⟨s.toArray⟩
def nmB (s : List UInt8) : Bool := nameB (bytesOf s)
theorem name_C (s : List UInt8) (hs : s.length ≤ 1000000) : PureC Try.prog 167 [aS s] (.ret (aB (nmB s))) := by
  refine ⟨fun a w => Try.call167 a w, fun w M vals hM hp => ?_⟩
  obtain ⟨v0, q0, e0, p0, hq⟩ := PW.inv hp
  obtain rfl := e0
  obtain rfl : q0 = [] := List.length_eq_zero_iff.1 hq.1.symm
  have hv : v0 = .string (bytesOf s) := by
    cases p0 with
    | one _ _ hx => cases hx with
      | c _ _ hx => cases hx with
        | str _ => rfl
  subst hv
  refine (name_walk (bytesOf s) w (by show s.toArray.size ≤ _; rw [List.size_toArray]; omega)).mono fun e w' ⟨he, pos, hw⟩ => ?_
  subst hw
  exact ⟨_, he, (Below.refl w.heap.size w).alloc (Nat.le_refl _) _, .one _ _ (.c _ _ (.val _ rfl))⟩

end Go.Proofs.Ytdhkdnmefeeclaa
set_option linter.unusedSimpArgs false
set_option linter.unusedVariables false
set_option maxRecDepth 100000
set_option maxHeartbeats 4000000
namespace Go.Proofs.Ytdhkdnmefeeclaa
open Go Go.Am Go.Proofs Go.RowKit Go.Off

abbrev Str := List UInt8
def fW (s : Str) : List CV := [.str s]
abbrev aSs (l : Option (List Str)) : AV := .one (.c (encSl 1 fW l))
structure RowM where
  name : Str
  coef : VV
  rel : Int
  b : RR
def fRow (r : RowM) : List CV := [.str r.name, vr r.coef, .val (.int .i64 r.rel), .val (.bool r.b.minus), nr r.b.size, nr r.b.den]
structure MD where
  vars : Option (List Str)
  cost : VV
  rows : Option (List RowM)
abbrev aMd (m : MD) : AV := .agg [.c (encSl 1 fW m.vars), .c (vr m.cost), .c (encSl 6 fRow m.rows)]

def sIs (l : List Str) (s : Str) (i : Nat) : Bool := s == l.getD i []
def idxS (l : List Str) (s : Str) : Int := fstI (sIs l s) l.length

abbrev c185_k1 : CC := (.seq (.reg [⟨(some 4), none, (.mv (.const (.int .i64 (-1))))⟩]) .ret)
abbrev c185_b1 : CC := (.seq (.reg [⟨(some 9), none, (.bin .lss (.tmp 8) (.tmp 7))⟩]) (.seq (.cond (.tmp 9) .skip (.exit 0)) (.seq (.block 1 (.seq (.reg [⟨(some 10), none, (.mv (.tmp 8))⟩, ⟨(some 5), none, (.mv (.tmp 10))⟩]) (.seq (.reg [⟨(some 11), none, (.mv (.tmp 1))⟩, ⟨(some 12), none, (.mv (.tmp 0))⟩, ⟨(some 13), none, (.mv (.tmp 5))⟩, ⟨(some 14), none, (.iaddr 1 none (.tmp 12) (.tmp 13))⟩, ⟨(some 15), none, (.load 1 false (.tmp 14))⟩, ⟨(some 16), none, (.bin .eql (.tmp 11) (.tmp 15))⟩]) (.cond (.tmp 16) (.seq (.reg [⟨(some 17), none, (.mv (.tmp 5))⟩, ⟨(some 4), none, (.mv (.tmp 17))⟩]) .ret) .skip)))) (.reg [⟨(some 18), none, (.bin .add (.tmp 8) (.const (.int .i64 (1))))⟩, ⟨(some 8), none, (.mv (.tmp 18))⟩]))))
abbrev c185 : CC := (.seq (.reg [⟨(some 4), none, (.mv (.const (.int .i64 (0))))⟩]) (.seq (.seq (.reg [⟨(some 6), none, (.mv (.tmp 0))⟩, ⟨(some 7), none, (.len false (.tmp 6))⟩, ⟨(some 8), none, (.mv (.const (.int .i64 (0))))⟩]) (.block 0 (.loop c185_b1))) c185_k1))
theorem cc185 : ccode Try.prog [] (Try.f185.body.getD .skip) = some c185 := by kernel_rfl
theorem body185 : Try.f185.body = some (Try.f185.body.getD .skip) := rfl

theorem sindex_C (l : Option (List Str)) (s : Str) (hl : (osl l).length ≤ 1000000) : PureC Try.prog 185 [aSs l, aS s] (.ret (aI (idxS (osl l) s))) := by
  unfold idxS
  refine pureC_of (rs := [(RV.tmp 4)]) Try.func185 (fun a w => Try.call185 a w) body185 cc185 (by kernel_rfl) ?_
  rw [Try.ntmps185]
  simp only [frs, Nat.reduceAdd, Nat.reduceSub]
  repeat (first | (with_reducible first | refine Way.imp ?_ | refine blk_o rfl ?_) | ((with_reducible refine WayR.imp (fun K hK => ?_)); simp (disch := first | omega | (simp only [dls]; omega)) only [std, reduceIte, reduceCtorEq, Int.reduceToNat, Nat.reduceAdd, Nat.reduceSub, Nat.reduceMul, Int.reduceAdd, Int.reduceSub, Int.reduceMul, Int.reduceNeg, fU]; subst hK))
  refine awp_loop (fun (zz : Nat) => ⟨(aSs l :: aS s :: .junk :: .junk :: aI 0 :: .junk :: aSs l :: aI (osl l).length :: aI zz :: .junk :: .junk :: .junk :: .junk :: .junk :: .junk :: .junk :: .junk :: .junk :: .junk :: []), []⟩) (fun (zz : Nat) => zz ≤ (osl l).length ∧ anyI (sIs (osl l) s) zz = false) (fun (zz : Nat) => (osl l).length - zz) (0) ?hI1 (Fgt.head (Nat.le_refl _) [true, true, false, false, true, false, true, true, true] ?hT1 ?hH1) ?hB1
  case hT1 => first | (simp (disch := omega) only [hds, liveT, cleanAV, cleanCell, clean1, cleanBlk, reduceIte, Int.reduceSub, Int.reduceAdd, Int.reduceNeg]; done) | rfl
  case hH1 => first | (simp (disch := omega) only [hds, liveT, cleanAV, cleanCell, clean1, cleanBlk, reduceIte, Int.reduceSub, Int.reduceAdd, Int.reduceNeg]; done) | rfl
  · exact ⟨Nat.zero_le _, rfl⟩
  rintro i ⟨hi, hs⟩
  by_cases him : i = (osl l).length
  · repeat (first | (with_reducible first | refine Way.imp ?_ | refine blk_o rfl ?_) | ((with_reducible refine WayR.imp (fun K hK => ?_)); simp (disch := first | omega | (simp only [dls]; omega)) only [std, reduceIte, reduceCtorEq, Int.reduceToNat, Nat.reduceAdd, Nat.reduceSub, Nat.reduceMul, Int.reduceAdd, Int.reduceSub, Int.reduceMul, Int.reduceNeg, fU]; subst hK))
    rw [fstI_none (by rw [← him]; exact hs)]
    exact ⟨_, rfl, rfl⟩
  · have hlt : i < (osl l).length := by omega
    have hb : sIs (osl l) s i = (s == (osl l)[i]) := by unfold sIs; rw [List.getD_eq_getElem?_getD, List.getElem?_eq_getElem hlt]; rfl
    cases he : (s == (osl l)[i]) with
    | false =>
      rw [he] at hb
      repeat (first | (with_reducible first | refine Way.imp ?_ | refine blk_o rfl ?_) | ((with_reducible refine WayR.imp (fun K hK => ?_)); simp (disch := first | omega | (simp only [dls]; omega)) only [std, reduceIte, reduceCtorEq, Int.reduceToNat, Nat.reduceAdd, Nat.reduceSub, Nat.reduceMul, Int.reduceAdd, Int.reduceSub, Int.reduceMul, Int.reduceNeg, fU, fW, he]; subst hK))
      refine ⟨(i + 1), ?hI2, ?hM2, Fgt.head (Nat.le_refl _) [true, true, false, false, true, false, true, true, true] ?hT2 ?hH2⟩
      case hT2 => first | (simp (disch := omega) only [hds, liveT, cleanAV, cleanCell, clean1, cleanBlk, reduceIte, Int.reduceSub, Int.reduceAdd, Int.reduceNeg]; done) | rfl
      case hH2 => first | (simp (disch := omega) only [hds, liveT, cleanAV, cleanCell, clean1, cleanBlk, reduceIte, Int.reduceSub, Int.reduceAdd, Int.reduceNeg]; done) | rfl
      · exact ⟨Nat.succ_le_of_lt hlt, by rw [anyI_succ, hs, hb]; rfl⟩
      · show (osl l).length - (i + 1) < (osl l).length - i; omega
    | true =>
      rw [he] at hb
      repeat (first | (with_reducible first | refine Way.imp ?_ | refine blk_o rfl ?_) | ((with_reducible refine WayR.imp (fun K hK => ?_)); simp (disch := first | omega | (simp only [dls]; omega)) only [std, reduceIte, reduceCtorEq, Int.reduceToNat, Nat.reduceAdd, Nat.reduceSub, Nat.reduceMul, Int.reduceAdd, Int.reduceSub, Int.reduceMul, Int.reduceNeg, fU, fW, he]; subst hK))
      rw [fstI_some hlt hs hb]
      exact ⟨_, rfl, rfl⟩

abbrev c168 : CC := (.seq (.reg [⟨(some 4), none, (.mv (.const (.int .i64 (0))))⟩]) (.seq (.reg [⟨(some 5), none, (.mv (.tmp 0))⟩, ⟨(some 6), none, (.mv (.tmp 1))⟩, ⟨(some 7), none, (.callf (.func 185) [(.tmp 5), (.tmp 6)])⟩, ⟨(some 4), none, (.mv (.tmp 7))⟩]) .ret))
theorem cc168 : ccode Try.prog [] (Try.f168.body.getD .skip) = some c168 := by kernel_rfl
theorem body168 : Try.f168.body = some (Try.f168.body.getD .skip) := rfl

theorem lindex_C (l : Option (List Str)) (s : Str) (hl : (osl l).length ≤ 1000000) : PureC Try.prog 168 [aSs l, aS s] (.ret (aI (idxS (osl l) s))) := by
  have hx := sindex_C l s hl
  generalize idxS (osl l) s = k at *
  refine pureC_of (rs := [(RV.tmp 4)]) Try.func168 (fun a w => Try.call168 a w) body168 cc168 (by kernel_rfl) ?_
  rw [Try.ntmps168]
  simp only [frs, Nat.reduceAdd, Nat.reduceSub]
  repeat (first | (with_reducible first | refine Way.imp ?_ | refine blk_o rfl ?_) | ((with_reducible refine WayR.imp (fun K hK => ?_)); simp (disch := first | omega | (simp only [dls]; omega)) only [std, reduceIte, reduceCtorEq, Int.reduceToNat, Nat.reduceAdd, Nat.reduceSub, Nat.reduceMul, Int.reduceAdd, Int.reduceSub, Int.reduceMul, Int.reduceNeg, fU]; subst hK) | refine zcA (hx) rfl rfl rfl ?_)
  exact ⟨_, rfl, rfl⟩

def nmAt (l : List Str) (i : Nat) : Bool := nmB (l.getD i []) && decide (idxS l (l.getD i []) = (i : Int))
def nmTo (l : List Str) (k : Nat) : Bool := (List.range k).all (nmAt l)
def namesB (l : List Str) : Bool := nmTo l l.length
theorem nmTo_succ (l : List Str) (k : Nat) : nmTo l (k + 1) = (nmTo l k && nmAt l k) := by unfold nmTo; rw [List.range_succ, List.all_append]; simp
theorem nmTo_false {l : List Str} {k n : Nat} (hk : k < n) (h : nmAt l k = false) : nmTo l n = false := by
  unfold nmTo
  rw [List.all_eq_false]
  exact ⟨k, List.mem_range.2 hk, by simp [h]⟩

abbrev c127_k1 : CC := (.seq (.reg [⟨(some 2), none, (.mv (.const (.bool true)))⟩]) .ret)
abbrev c127_b1 : CC := (.seq (.reg [⟨(some 8), none, (.bin .lss (.tmp 7) (.tmp 6))⟩]) (.seq (.cond (.tmp 8) .skip (.exit 0)) (.seq (.block 1 (.seq (.reg [⟨(some 9), none, (.mv (.tmp 7))⟩, ⟨(some 10), none, (.iaddr 1 none (.tmp 5) (.tmp 7))⟩, ⟨(some 11), none, (.load 1 false (.tmp 10))⟩, ⟨(some 3), none, (.mv (.tmp 9))⟩, ⟨(some 4), none, (.mv (.tmp 11))⟩]) (.seq (.reg [⟨(some 12), none, (.mv (.tmp 4))⟩, ⟨(some 13), none, (.callf (.func 167) [(.tmp 12)])⟩, ⟨(some 14), none, (.un .not (.tmp 13))⟩, ⟨(some 15), none, (.mv (.tmp 14))⟩, ⟨(some 16), (some (15, false)), (.mv (.tmp 0))⟩, ⟨(some 17), (some (15, false)), (.mv (.tmp 4))⟩, ⟨(some 18), (some (15, false)), (.callf (.func 168) [(.tmp 16), (.tmp 17)])⟩, ⟨(some 19), (some (15, false)), (.mv (.tmp 3))⟩, ⟨(some 20), (some (15, false)), (.bin .neq (.tmp 18) (.tmp 19))⟩, ⟨(some 21), none, (.pick (.tmp 15) (.const (.bool true)) (.tmp 20))⟩]) (.cond (.tmp 21) (.seq (.reg [⟨(some 2), none, (.mv (.const (.bool false)))⟩]) .ret) .skip)))) (.reg [⟨(some 22), none, (.bin .add (.tmp 7) (.const (.int .i64 (1))))⟩, ⟨(some 7), none, (.mv (.tmp 22))⟩]))))
abbrev c127 : CC := (.seq (.reg [⟨(some 2), none, (.mv (.const (.bool false)))⟩]) (.seq (.seq (.reg [⟨(some 5), none, (.mv (.tmp 0))⟩, ⟨(some 6), none, (.len false (.tmp 5))⟩, ⟨(some 7), none, (.mv (.const (.int .i64 (0))))⟩]) (.block 0 (.loop c127_b1))) c127_k1))
theorem cc127 : ccode Try.prog [] (Try.f127.body.getD .skip) = some c127 := by kernel_rfl
theorem body127 : Try.f127.body = some (Try.f127.body.getD .skip) := rfl

theorem names_C (l : Option (List Str)) (hl : (osl l).length ≤ 1000000) (hw : ∀ s ∈ osl l, s.length ≤ 1000000) : PureC Try.prog 127 [aSs l] (.ret (aB (namesB (osl l)))) := by
  unfold namesB
  refine pureC_of (rs := [(RV.tmp 2)]) Try.func127 (fun a w => Try.call127 a w) body127 cc127 (by kernel_rfl) ?_
  rw [Try.ntmps127]
  simp only [frs, Nat.reduceAdd, Nat.reduceSub]
  repeat (first | (with_reducible first | refine Way.imp ?_ | refine blk_o rfl ?_) | ((with_reducible refine WayR.imp (fun K hK => ?_)); simp (disch := first | omega | (simp only [dls]; omega)) only [std, reduceIte, reduceCtorEq, Int.reduceToNat, Nat.reduceAdd, Nat.reduceSub, Nat.reduceMul, Int.reduceAdd, Int.reduceSub, Int.reduceMul, Int.reduceNeg, fU]; subst hK))
  refine awp_loop (fun (zz : Nat) => ⟨(aSs l :: .junk :: .junk :: .junk :: .junk :: aSs l :: aI (osl l).length :: aI zz :: .junk :: .junk :: .junk :: .junk :: .junk :: .junk :: .junk :: .junk :: .junk :: .junk :: .junk :: .junk :: .junk :: .junk :: .junk :: []), []⟩) (fun (zz : Nat) => zz ≤ (osl l).length ∧ nmTo (osl l) zz = true) (fun (zz : Nat) => (osl l).length - zz) (0) ?hI3 (Fgt.head (Nat.le_refl _) [true, false, false, false, false, true, true, true] ?hT3 ?hH3) ?hB3
  case hT3 => first | (simp (disch := omega) only [hds, liveT, cleanAV, cleanCell, clean1, cleanBlk, reduceIte, Int.reduceSub, Int.reduceAdd, Int.reduceNeg]; done) | rfl
  case hH3 => first | (simp (disch := omega) only [hds, liveT, cleanAV, cleanCell, clean1, cleanBlk, reduceIte, Int.reduceSub, Int.reduceAdd, Int.reduceNeg]; done) | rfl
  · exact ⟨Nat.zero_le _, rfl⟩
  rintro i ⟨hi, hs⟩
  by_cases him : i = (osl l).length
  · rw [← him, hs]
    repeat (first | (with_reducible first | refine Way.imp ?_ | refine blk_o rfl ?_) | ((with_reducible refine WayR.imp (fun K hK => ?_)); simp (disch := first | omega | (simp only [dls]; omega)) only [std, reduceIte, reduceCtorEq, Int.reduceToNat, Nat.reduceAdd, Nat.reduceSub, Nat.reduceMul, Int.reduceAdd, Int.reduceSub, Int.reduceMul, Int.reduceNeg, fU]; subst hK))
    exact ⟨_, rfl, rfl⟩
  · have hlt : i < (osl l).length := by omega
    have hn := name_C (osl l)[i] (hw _ (List.getElem_mem hlt))
    have hx := lindex_C l (osl l)[i] hl
    have hb : nmAt (osl l) i = (nmB (osl l)[i] && decide (idxS (osl l) (osl l)[i] = (i : Int))) := by
      have : (osl l).getD i [] = (osl l)[i] := by rw [List.getD_eq_getElem?_getD, List.getElem?_eq_getElem hlt]; rfl
      unfold nmAt; rw [this]
    cases h1 : nmB (osl l)[i] with
    | false =>
      rw [h1] at hn hb
      rw [nmTo_false hlt hb]
      repeat (first | (with_reducible first | refine Way.imp ?_ | refine blk_o rfl ?_) | ((with_reducible refine WayR.imp (fun K hK => ?_)); simp (disch := first | omega | (simp only [dls]; omega)) only [std, reduceIte, reduceCtorEq, Int.reduceToNat, Nat.reduceAdd, Nat.reduceSub, Nat.reduceMul, Int.reduceAdd, Int.reduceSub, Int.reduceMul, Int.reduceNeg, fU, fW]; subst hK) | refine zcA (hn) rfl rfl rfl ?_)
      exact ⟨_, rfl, rfl⟩
    | true =>
      rw [h1, Bool.true_and] at hb
      rw [h1] at hn
      generalize idxS (osl l) (osl l)[i] = k at *
      by_cases h2 : k = (i : Int)
      · rw [decide_eq_true h2] at hb
        repeat (first | (with_reducible first | refine Way.imp ?_ | refine blk_o rfl ?_) | ((with_reducible refine WayR.imp (fun K hK => ?_)); simp (disch := first | omega | (simp only [dls]; omega)) only [std, reduceIte, reduceCtorEq, Int.reduceToNat, Nat.reduceAdd, Nat.reduceSub, Nat.reduceMul, Int.reduceAdd, Int.reduceSub, Int.reduceMul, Int.reduceNeg, fU, fW]; subst hK) | refine zcA (hn) rfl rfl rfl ?_ | (apply call_any_g (hx) rfl; (case hg => simp (disch := first | omega | (simp only [dls]; omega)) only [std, reduceIte, reduceCtorEq, Int.reduceToNat, Nat.reduceAdd, Nat.reduceSub, Nat.reduceMul, Int.reduceAdd, Int.reduceSub, Int.reduceMul, Int.reduceNeg, fU, fW]); (case hcl => (simp only [evs, St.ev, constAV, evl]; (repeat (first | exact closeAVs_nil | (apply closeAVs_cons; (first | (refine close_own3 rfl (by decide)) | (refine close_ownO rfl (by decide) ?_; assumption) | rfl)))); done)); (case hu => rfl)))
        refine ⟨(i + 1), ?hI4, ?hM4, Fgt.head (Nat.le_refl _) [true, false, false, false, false, true, true, true] ?hT4 ?hH4⟩
        case hT4 => first | (simp (disch := omega) only [hds, liveT, cleanAV, cleanCell, clean1, cleanBlk, reduceIte, Int.reduceSub, Int.reduceAdd, Int.reduceNeg]; done) | rfl
        case hH4 => first | (simp (disch := omega) only [hds, liveT, cleanAV, cleanCell, clean1, cleanBlk, reduceIte, Int.reduceSub, Int.reduceAdd, Int.reduceNeg]; done) | rfl
        · exact ⟨Nat.succ_le_of_lt hlt, by rw [nmTo_succ, hs, hb]; rfl⟩
        · show (osl l).length - (i + 1) < (osl l).length - i; omega
      · rw [decide_eq_false h2] at hb
        rw [nmTo_false hlt hb]
        repeat (first | (with_reducible first | refine Way.imp ?_ | refine blk_o rfl ?_) | ((with_reducible refine WayR.imp (fun K hK => ?_)); simp (disch := first | omega | (simp only [dls]; omega)) only [std, reduceIte, reduceCtorEq, Int.reduceToNat, Nat.reduceAdd, Nat.reduceSub, Nat.reduceMul, Int.reduceAdd, Int.reduceSub, Int.reduceMul, Int.reduceNeg, fU, fW]; subst hK) | refine zcA (hn) rfl rfl rfl ?_ | (apply call_any_g (hx) rfl; (case hg => simp (disch := first | omega | (simp only [dls]; omega)) only [std, reduceIte, reduceCtorEq, Int.reduceToNat, Nat.reduceAdd, Nat.reduceSub, Nat.reduceMul, Int.reduceAdd, Int.reduceSub, Int.reduceMul, Int.reduceNeg, fU, fW]); (case hcl => (simp only [evs, St.ev, constAV, evl]; (repeat (first | exact closeAVs_nil | (apply closeAVs_cons; (first | (refine close_own3 rfl (by decide)) | (refine close_ownO rfl (by decide) ?_; assumption) | rfl)))); done)); (case hu => rfl)))
        exact ⟨_, rfl, rfl⟩

theorem encB_snoc_W (l : List Str) (s : Str) : encB fW l ++ [[Cell.c (.str s)]] = encB fW (l ++ [s]) := by simp [encB, fW]
def rowNm (m : MD) : List Str := (osl m.rows).map RowM.name

abbrev c128_k1 : CC := (.seq (.reg [⟨(some 18), none, (.mv (.tmp 3))⟩, ⟨(some 2), none, (.mv (.tmp 18))⟩]) .ret)
abbrev c128_b1 : CC := (.seq (.reg [⟨(some 9), none, (.bin .lss (.tmp 8) (.tmp 7))⟩]) (.seq (.cond (.tmp 9) .skip (.exit 0)) (.seq (.block 1 (.seq (.reg [⟨(some 10), none, (.iaddr 6 none (.tmp 6) (.tmp 8))⟩, ⟨(some 11), none, (.load 6 true (.tmp 10))⟩, ⟨(some 5), none, (.new 96 [(.string ⟨#[]⟩), (.slice none 0 0), (.int .i64 (0)), (.bool false), (.slice none 0 0), (.slice none 0 0)])⟩, ⟨none, none, (.store 6 (.tmp 5) (.tmp 11))⟩]) (.reg [⟨(some 12), none, (.mv (.tmp 3))⟩, ⟨(some 13), none, (.faddr 0 (.tmp 5))⟩, ⟨(some 14), none, (.load 1 false (.tmp 13))⟩, ⟨(some 15), none, (.mkrow 9 1 [(.tmp 14)])⟩, ⟨(some 16), none, (.append 9 1 16 (.tmp 12) (.tmp 15))⟩, ⟨(some 3), none, (.mv (.tmp 16))⟩]))) (.reg [⟨(some 17), none, (.bin .add (.tmp 8) (.const (.int .i64 (1))))⟩, ⟨(some 8), none, (.mv (.tmp 17))⟩]))))
abbrev c128 : CC := (.seq (.reg [⟨(some 2), none, (.mv (.const (.slice none 0 0)))⟩]) (.seq (.reg [⟨(some 3), none, (.mv (.const (.slice none 0 0)))⟩]) (.seq (.seq (.reg [⟨(some 6), none, (.mv (.tmp 0))⟩, ⟨(some 7), none, (.len false (.tmp 6))⟩, ⟨(some 8), none, (.mv (.const (.int .i64 (0))))⟩]) (.block 0 (.loop c128_b1))) c128_k1)))
theorem cc128 : ccode Try.prog [] (Try.f128.body.getD .skip) = some c128 := by kernel_rfl
theorem body128 : Try.f128.body = some (Try.f128.body.getD .skip) := rfl

theorem rowNames_C (m : MD) (hl : (osl m.rows).length ≤ 1000000) : PureC Try.prog 128 [.one (.c (encSl 6 fRow m.rows))] (.ret (aSs (rowO (rowNm m)))) := by
  refine PureC.fresh_rowO (ty := 9) ?_
  refine pureC_of (rs := [(RV.tmp 2)]) Try.func128 (fun a w => Try.call128 a w) body128 cc128 (by kernel_rfl) ?_
  rw [Try.ntmps128]
  simp only [frs, Nat.reduceAdd, Nat.reduceSub]
  repeat (first | (with_reducible first | refine Way.imp ?_ | refine blk_o rfl ?_) | ((with_reducible refine WayR.imp (fun K hK => ?_)); simp (disch := first | omega | (simp only [dls]; omega)) only [std, reduceIte, reduceCtorEq, Int.reduceToNat, Nat.reduceAdd, Nat.reduceSub, Nat.reduceMul, Int.reduceAdd, Int.reduceSub, Int.reduceMul, Int.reduceNeg, fU]; subst hK))
  refine AWp.fgt ?_ (Fgt.openNil (i := 3) rfl 9 1)
  simp only [List.set_cons_succ, List.set_cons_zero, List.length_nil, List.length_cons, List.nil_append, List.cons_append, Nat.reduceAdd]
  refine awp_loop (fun (zz : Nat × (List Str) × Nat × Bool) => ⟨(.junk :: .junk :: .junk :: .one (.own 0 zz.2.2.1) :: .junk :: .junk :: .one (.c (encSl 6 fRow m.rows)) :: aI (osl m.rows).length :: aI zz.1 :: .junk :: .junk :: .junk :: .junk :: .junk :: .junk :: .junk :: .junk :: .junk :: .junk :: []), [⟨zz.2.2.1, 9, 1, encB fW zz.2.1, true, zz.2.2.2⟩]⟩) (fun (zz : Nat × (List Str) × Nat × Bool) => zz.1 ≤ (osl m.rows).length ∧ zz.2.1 = ((osl m.rows).take zz.1).map RowM.name ∧ zz.2.2.2 = !zz.2.1.isEmpty) (fun (zz : Nat × (List Str) × Nat × Bool) => (osl m.rows).length - zz.1) (0, [], 0, false) ?hI5 (Fgt.head (Nat.zero_le 1) [false, false, false, true, false, false, true, true, true] ?hT5 ?hH5) ?hB5
  case hT5 => first | (simp (disch := omega) only [hds, liveT, cleanAV, cleanCell, clean1, cleanBlk, reduceIte, Int.reduceSub, Int.reduceAdd, Int.reduceNeg, encB_nil]; done) | rfl
  case hH5 => first | (simp (disch := omega) only [hds, liveT, cleanAV, cleanCell, clean1, cleanBlk, reduceIte, Int.reduceSub, Int.reduceAdd, Int.reduceNeg, encB_nil]; done) | rfl
  · dsimp only; exact ⟨by omega, rfl, rfl⟩
  rintro ⟨i, out, v, nn⟩ ⟨hi, ho, hnn⟩
  dsimp only at hi ho hnn
  by_cases him : i = (osl m.rows).length
  · repeat (first | (with_reducible first | refine Way.imp ?_ | refine blk_o rfl ?_) | ((with_reducible refine WayR.imp (fun K hK => ?_)); simp (disch := first | omega | (simp only [dls]; omega)) only [std, reduceIte, reduceCtorEq, Int.reduceToNat, Nat.reduceAdd, Nat.reduceSub, Nat.reduceMul, Int.reduceAdd, Int.reduceSub, Int.reduceMul, Int.reduceNeg, fU]; subst hK))
    refine ⟨_, rfl, ?_⟩
    rw [him, List.take_length] at ho
    have he : (!(rowNm m).isEmpty) = nn := by rw [hnn, ho]; rfl
    rw [he, show rowNm m = out from ho.symm]
    exact Ends.fresh_enc rfl
  · have hlt : i < (osl m.rows).length := by omega
    have hol : out.length = i := by rw [ho, List.length_map, List.length_take]; omega
    repeat (first | (with_reducible first | refine Way.imp ?_ | refine blk_o rfl ?_) | ((with_reducible refine WayR.imp (fun K hK => ?_)); simp (disch := first | omega | (simp only [dls]; omega)) only [std, reduceIte, reduceCtorEq, Int.reduceToNat, Nat.reduceAdd, Nat.reduceSub, Nat.reduceMul, Int.reduceAdd, Int.reduceSub, Int.reduceMul, Int.reduceNeg, fU, fRow]; subst hK))
    refine ⟨(i + 1, out ++ [(osl m.rows)[i].name], v + 1, true), ?hI6, ?hM6, Fgt.head (Nat.zero_le 1) [false, false, false, true, false, false, true, true, true] ?hT6 ?hH6⟩
    case hT6 => first | (simp (disch := omega) only [hds, liveT, cleanAV, cleanCell, clean1, cleanBlk, reduceIte, Int.reduceSub, Int.reduceAdd, Int.reduceNeg, encB_snoc_W, List.isEmpty_cons, Bool.or_true, Bool.not_false]; done) | rfl
    case hH6 => first | (simp (disch := omega) only [hds, liveT, cleanAV, cleanCell, clean1, cleanBlk, reduceIte, Int.reduceSub, Int.reduceAdd, Int.reduceNeg, encB_snoc_W, List.isEmpty_cons, Bool.or_true, Bool.not_false]; done) | rfl
    · dsimp only
      refine ⟨by omega, ?_, by simp⟩
      rw [ho, List.take_succ_eq_append_getElem hlt, List.map_append]
      rfl
    · dsimp only; omega

end Go.Proofs.Ytdhkdnmefeeclaa
set_option linter.unusedSimpArgs false
set_option linter.unusedVariables false
set_option maxRecDepth 100000
set_option maxHeartbeats 4000000
namespace Go.Proofs.Ytdhkdnmefeeclaa
open Go Go.Am Go.Proofs Go.RowKit Go.Off

def rwAt (m : MD) (i : Nat) : RowM := (osl m.rows).getD i ⟨[], none, 0, zR⟩
theorem rwAt_in {m : MD} {i : Nat} (h : i < (osl m.rows).length) : rwAt m i = (osl m.rows)[i] := by
  unfold rwAt; rw [List.getD_eq_getElem?_getD, List.getElem?_eq_getElem h]; rfl
def rwBad (n : Nat) (r : RowM) : Bool := !(decide ((osl r.coef).length = n) && (decide (-1 ≤ r.rel) && decide (r.rel ≤ 1)))
def mdBad (m : MD) (i : Nat) : Bool := rwBad (osl m.vars).length (rwAt m i)
abbrev aMr1 (n : Nat) : AV := .one (.fn 126 [.iptr [.val (.int .i64 (n : Int))]])

abbrev c126 : CC := (.seq (.reg [⟨(some 2), none, (.box 96 (.tmp 0))⟩, ⟨(some 3), none, (.mv (.const (.bool false)))⟩]) (.seq (.reg [⟨(some 4), none, (.faddr 1 (.tmp 2))⟩, ⟨(some 5), none, (.load 1 false (.tmp 4))⟩, ⟨(some 6), none, (.len false (.tmp 5))⟩, ⟨(some 7), none, (.load 1 false (.tmp 1))⟩, ⟨(some 8), none, (.bin .neq (.tmp 6) (.tmp 7))⟩, ⟨(some 9), none, (.mv (.tmp 8))⟩, ⟨(some 10), (some (9, false)), (.faddr 2 (.tmp 2))⟩, ⟨(some 11), (some (9, false)), (.load 1 false (.tmp 10))⟩, ⟨(some 12), (some (9, false)), (.bin .lss (.tmp 11) (.const (.int .i64 (-1))))⟩, ⟨(some 13), none, (.pick (.tmp 9) (.const (.bool true)) (.tmp 12))⟩, ⟨(some 14), none, (.mv (.tmp 13))⟩, ⟨(some 15), (some (14, false)), (.faddr 2 (.tmp 2))⟩, ⟨(some 16), (some (14, false)), (.load 1 false (.tmp 15))⟩, ⟨(some 17), (some (14, false)), (.bin .gtr (.tmp 16) (.const (.int .i64 (1))))⟩, ⟨(some 18), none, (.pick (.tmp 14) (.const (.bool true)) (.tmp 17))⟩, ⟨(some 3), none, (.mv (.tmp 18))⟩]) .ret))
theorem cc126 : ccode Try.prog [] (Try.f126.body.getD .skip) = some c126 := by kernel_rfl
theorem body126 : Try.f126.body = some (Try.f126.body.getD .skip) := rfl

theorem mright1_C (r : RowM) (n : Nat) (hn : n ≤ 1000000) : PureC Try.prog 126 [.agg ((fRow r).map .c), .one (.iptr [.val (.int .i64 (n : Int))])] (.ret (aB (rwBad n r))) := by
  unfold rwBad fRow
  simp only [List.map_cons, List.map_nil]
  by_cases h1 : (osl r.coef).length = n
  · rw [decide_eq_true h1, Bool.true_and]
    by_cases h2 : -1 ≤ r.rel
    · rw [decide_eq_true h2, Bool.true_and]
      by_cases h3 : r.rel ≤ 1
      · rw [decide_eq_true h3]
        refine pureC_of (rs := [(RV.tmp 3)]) Try.func126 (fun a w => Try.call126 a w) body126 cc126 (by kernel_rfl) ?_
        rw [Try.ntmps126]
        simp only [frs, Nat.reduceAdd, Nat.reduceSub]
        repeat (first | (with_reducible first | refine Way.imp ?_ | refine blk_o rfl ?_) | ((with_reducible refine WayR.imp (fun K hK => ?_)); simp (disch := first | omega | (simp only [dls]; omega)) only [std, reduceIte, reduceCtorEq, Int.reduceToNat, Nat.reduceAdd, Nat.reduceSub, Nat.reduceMul, Int.reduceAdd, Int.reduceSub, Int.reduceMul, Int.reduceNeg, fU, h1]; subst hK))
        exact ⟨_, rfl, rfl⟩
      · rw [decide_eq_false h3]
        refine pureC_of (rs := [(RV.tmp 3)]) Try.func126 (fun a w => Try.call126 a w) body126 cc126 (by kernel_rfl) ?_
        rw [Try.ntmps126]
        simp only [frs, Nat.reduceAdd, Nat.reduceSub]
        repeat (first | (with_reducible first | refine Way.imp ?_ | refine blk_o rfl ?_) | ((with_reducible refine WayR.imp (fun K hK => ?_)); simp (disch := first | omega | (simp only [dls]; omega)) only [std, reduceIte, reduceCtorEq, Int.reduceToNat, Nat.reduceAdd, Nat.reduceSub, Nat.reduceMul, Int.reduceAdd, Int.reduceSub, Int.reduceMul, Int.reduceNeg, fU, h1]; subst hK))
        exact ⟨_, rfl, rfl⟩
    · rw [decide_eq_false h2, Bool.false_and]
      refine pureC_of (rs := [(RV.tmp 3)]) Try.func126 (fun a w => Try.call126 a w) body126 cc126 (by kernel_rfl) ?_
      rw [Try.ntmps126]
      simp only [frs, Nat.reduceAdd, Nat.reduceSub]
      repeat (first | (with_reducible first | refine Way.imp ?_ | refine blk_o rfl ?_) | ((with_reducible refine WayR.imp (fun K hK => ?_)); simp (disch := first | omega | (simp only [dls]; omega)) only [std, reduceIte, reduceCtorEq, Int.reduceToNat, Nat.reduceAdd, Nat.reduceSub, Nat.reduceMul, Int.reduceAdd, Int.reduceSub, Int.reduceMul, Int.reduceNeg, fU, h1]; subst hK))
      exact ⟨_, rfl, rfl⟩
  · rw [decide_eq_false h1, Bool.false_and]
    refine pureC_of (rs := [(RV.tmp 3)]) Try.func126 (fun a w => Try.call126 a w) body126 cc126 (by kernel_rfl) ?_
    rw [Try.ntmps126]
    simp only [frs, Nat.reduceAdd, Nat.reduceSub]
    repeat (first | (with_reducible first | refine Way.imp ?_ | refine blk_o rfl ?_) | ((with_reducible refine WayR.imp (fun K hK => ?_)); simp (disch := first | omega | (simp only [dls]; omega)) only [std, reduceIte, reduceCtorEq, Int.reduceToNat, Nat.reduceAdd, Nat.reduceSub, Nat.reduceMul, Int.reduceAdd, Int.reduceSub, Int.reduceMul, Int.reduceNeg, fU]; subst hK))
    exact ⟨_, rfl, rfl⟩

abbrev c169_k1 : CC := (.seq (.reg [⟨(some 4), none, (.mv (.const (.int .i64 (-1))))⟩]) .ret)
abbrev c169_b1 : CC := (.seq (.reg [⟨(some 9), none, (.bin .lss (.tmp 8) (.tmp 7))⟩]) (.seq (.cond (.tmp 9) .skip (.exit 0)) (.seq (.block 1 (.seq (.reg [⟨(some 10), none, (.mv (.tmp 8))⟩, ⟨(some 5), none, (.mv (.tmp 10))⟩]) (.seq (.reg [⟨(some 11), none, (.mv (.tmp 1))⟩, ⟨(some 12), none, (.mv (.tmp 0))⟩, ⟨(some 13), none, (.mv (.tmp 5))⟩, ⟨(some 14), none, (.iaddr 6 none (.tmp 12) (.tmp 13))⟩, ⟨(some 15), none, (.load 6 true (.tmp 14))⟩, ⟨(some 16), none, (.callf (.tmp 11) [(.tmp 15)])⟩]) (.cond (.tmp 16) (.seq (.reg [⟨(some 17), none, (.mv (.tmp 5))⟩, ⟨(some 4), none, (.mv (.tmp 17))⟩]) .ret) .skip)))) (.reg [⟨(some 18), none, (.bin .add (.tmp 8) (.const (.int .i64 (1))))⟩, ⟨(some 8), none, (.mv (.tmp 18))⟩]))))
abbrev c169 : CC := (.seq (.reg [⟨(some 4), none, (.mv (.const (.int .i64 (0))))⟩]) (.seq (.seq (.reg [⟨(some 6), none, (.mv (.tmp 0))⟩, ⟨(some 7), none, (.len false (.tmp 6))⟩, ⟨(some 8), none, (.mv (.const (.int .i64 (0))))⟩]) (.block 0 (.loop c169_b1))) c169_k1))
theorem cc169 : ccode Try.prog [] (Try.f169.body.getD .skip) = some c169 := by kernel_rfl
theorem body169 : Try.f169.body = some (Try.f169.body.getD .skip) := rfl

theorem idxW_C (m : MD) (n : Nat) (hn : n ≤ 1000000) (hnv : n = (osl m.vars).length) (hl : (osl m.rows).length ≤ 1000000) :
    PureC Try.prog 169 [.one (.c (encSl 6 fRow m.rows)), aMr1 n] (.ret (aI (fstI (mdBad m) (osl m.rows).length))) := by
  refine pureC_of (rs := [(RV.tmp 4)]) Try.func169 (fun a w => Try.call169 a w) body169 cc169 (by kernel_rfl) ?_
  rw [Try.ntmps169]
  simp only [frs, Nat.reduceAdd, Nat.reduceSub]
  repeat (first | (with_reducible first | refine Way.imp ?_ | refine blk_o rfl ?_) | ((with_reducible refine WayR.imp (fun K hK => ?_)); simp (disch := first | omega | (simp only [dls]; omega)) only [std, reduceIte, reduceCtorEq, Int.reduceToNat, Nat.reduceAdd, Nat.reduceSub, Nat.reduceMul, Int.reduceAdd, Int.reduceSub, Int.reduceMul, Int.reduceNeg, fU]; subst hK))
  refine awp_loop (fun (zz : Nat) => ⟨(.one (.c (encSl 6 fRow m.rows)) :: aMr1 n :: .junk :: .junk :: aI 0 :: .junk :: .one (.c (encSl 6 fRow m.rows)) :: aI (osl m.rows).length :: aI zz :: .junk :: .junk :: .junk :: .junk :: .junk :: .junk :: .junk :: .junk :: .junk :: .junk :: []), []⟩) (fun (zz : Nat) => zz ≤ (osl m.rows).length ∧ anyI (mdBad m) zz = false) (fun (zz : Nat) => (osl m.rows).length - zz) (0) ?hI1 (Fgt.head (Nat.le_refl _) [true, true, false, false, true, false, true, true, true] ?hT1 ?hH1) ?hB1
  case hT1 => first | (simp (disch := omega) only [hds, liveT, cleanAV, cleanCell, clean1, cleanBlk, reduceIte, Int.reduceSub, Int.reduceAdd, Int.reduceNeg]; done) | rfl
  case hH1 => first | (simp (disch := omega) only [hds, liveT, cleanAV, cleanCell, clean1, cleanBlk, reduceIte, Int.reduceSub, Int.reduceAdd, Int.reduceNeg]; done) | rfl
  · exact ⟨Nat.zero_le _, rfl⟩
  rintro i ⟨hi, hs⟩
  by_cases him : i = (osl m.rows).length
  · repeat (first | (with_reducible first | refine Way.imp ?_ | refine blk_o rfl ?_) | ((with_reducible refine WayR.imp (fun K hK => ?_)); simp (disch := first | omega | (simp only [dls]; omega)) only [std, reduceIte, reduceCtorEq, Int.reduceToNat, Nat.reduceAdd, Nat.reduceSub, Nat.reduceMul, Int.reduceAdd, Int.reduceSub, Int.reduceMul, Int.reduceNeg, fU]; subst hK))
    rw [fstI_none (by rw [← him]; exact hs)]
    exact ⟨_, rfl, rfl⟩
  · have hlt : i < (osl m.rows).length := by omega
    have hz := mright1_C (osl m.rows)[i] n hn
    have hb : mdBad m i = rwBad n (osl m.rows)[i] := by unfold mdBad; rw [rwAt_in hlt, hnv]
    unfold fRow at hz
    simp only [List.map_cons, List.map_nil] at hz
    cases he : rwBad n (osl m.rows)[i] with
    | false =>
      rw [he] at hz hb
      repeat (first | (with_reducible first | refine Way.imp ?_ | refine blk_o rfl ?_) | ((with_reducible refine WayR.imp (fun K hK => ?_)); simp (disch := first | omega | (simp only [dls]; omega)) only [std, reduceIte, reduceCtorEq, Int.reduceToNat, Nat.reduceAdd, Nat.reduceSub, Nat.reduceMul, Int.reduceAdd, Int.reduceSub, Int.reduceMul, Int.reduceNeg, fU, fRow]; subst hK) | refine zcV (hz) rfl rfl rfl ?_)
      refine ⟨(i + 1), ?hI2, ?hM2, Fgt.head (Nat.le_refl _) [true, true, false, false, true, false, true, true, true] ?hT2 ?hH2⟩
      case hT2 => first | (simp (disch := omega) only [hds, liveT, cleanAV, cleanCell, clean1, cleanBlk, reduceIte, Int.reduceSub, Int.reduceAdd, Int.reduceNeg]; done) | rfl
      case hH2 => first | (simp (disch := omega) only [hds, liveT, cleanAV, cleanCell, clean1, cleanBlk, reduceIte, Int.reduceSub, Int.reduceAdd, Int.reduceNeg]; done) | rfl
      · exact ⟨Nat.succ_le_of_lt hlt, by rw [anyI_succ, hs, hb]; rfl⟩
      · show (osl m.rows).length - (i + 1) < (osl m.rows).length - i; omega
    | true =>
      rw [he] at hz hb
      repeat (first | (with_reducible first | refine Way.imp ?_ | refine blk_o rfl ?_) | ((with_reducible refine WayR.imp (fun K hK => ?_)); simp (disch := first | omega | (simp only [dls]; omega)) only [std, reduceIte, reduceCtorEq, Int.reduceToNat, Nat.reduceAdd, Nat.reduceSub, Nat.reduceMul, Int.reduceAdd, Int.reduceSub, Int.reduceMul, Int.reduceNeg, fU, fRow]; subst hK) | refine zcV (hz) rfl rfl rfl ?_)
      rw [fstI_some hlt hs hb]
      exact ⟨_, rfl, rfl⟩

abbrev c129 : CC := (.seq (.reg [⟨(some 4), none, (.mv (.const (.bool false)))⟩]) (.seq (.reg [⟨(some 5), none, (.mv (.tmp 0))⟩, ⟨(some 6), none, (.mv (.tmp 1))⟩, ⟨(some 7), none, (.callf (.func 169) [(.tmp 5), (.tmp 6)])⟩, ⟨(some 8), none, (.bin .geq (.tmp 7) (.const (.int .i64 (0))))⟩, ⟨(some 4), none, (.mv (.tmp 8))⟩]) .ret))
theorem cc129 : ccode Try.prog [] (Try.f129.body.getD .skip) = some c129 := by kernel_rfl
theorem body129 : Try.f129.body = some (Try.f129.body.getD .skip) := rfl

theorem conW_C (m : MD) (n : Nat) (hn : n ≤ 1000000) (hnv : n = (osl m.vars).length) (hl : (osl m.rows).length ≤ 1000000) :
    PureC Try.prog 129 [.one (.c (encSl 6 fRow m.rows)), aMr1 n] (.ret (aB (anyI (mdBad m) (osl m.rows).length))) := by
  have hx := idxW_C m n hn hnv hl
  rw [← fstI_any]
  generalize fstI (mdBad m) (osl m.rows).length = k at *
  refine pureC_of (rs := [(RV.tmp 4)]) Try.func129 (fun a w => Try.call129 a w) body129 cc129 (by kernel_rfl) ?_
  rw [Try.ntmps129]
  simp only [frs, Nat.reduceAdd, Nat.reduceSub]
  repeat (first | (with_reducible first | refine Way.imp ?_ | refine blk_o rfl ?_) | ((with_reducible refine WayR.imp (fun K hK => ?_)); simp (disch := first | omega | (simp only [dls]; omega)) only [std, reduceIte, reduceCtorEq, Int.reduceToNat, Nat.reduceAdd, Nat.reduceSub, Nat.reduceMul, Int.reduceAdd, Int.reduceSub, Int.reduceMul, Int.reduceNeg, fU]; subst hK) | refine zcA (hx) rfl rfl rfl ?_)
  exact ⟨_, rfl, rfl⟩

/-- May it be a model? -/
def rightMd (m : MD) : Bool := decide ((osl m.vars).length ≤ 60) && (decide ((osl m.cost).length = (osl m.vars).length) && (decide ((osl m.rows).length ≤ 60) && (namesB (osl m.vars) && (namesB (rowNm m) && !anyI (mdBad m) (osl m.rows).length))))

abbrev c73 : CC := (.seq (.reg [⟨(some 1), none, (.box 91 (.tmp 0))⟩, ⟨(some 2), none, (.mv (.const (.bool false)))⟩]) (.seq (.reg [⟨(some 5), none, (.faddr 0 (.tmp 1))⟩, ⟨(some 6), none, (.load 1 false (.tmp 5))⟩, ⟨(some 7), none, (.len false (.tmp 6))⟩, ⟨(some 3), none, (.new 3 [(.int .i64 (0))])⟩, ⟨none, none, (.store 1 (.tmp 3) (.tmp 7))⟩]) (.seq (.reg [⟨(some 8), none, (.mkfn 126 [(.tmp 3)])⟩, ⟨(some 4), none, (.mv (.tmp 8))⟩]) (.seq (.reg [⟨(some 9), none, (.load 1 false (.tmp 3))⟩, ⟨(some 10), none, (.bin .leq (.tmp 9) (.const (.int .i64 (60))))⟩, ⟨(some 11), none, (.mv (.tmp 10))⟩, ⟨(some 12), (some (11, true)), (.faddr 1 (.tmp 1))⟩, ⟨(some 13), (some (11, true)), (.load 1 false (.tmp 12))⟩, ⟨(some 14), (some (11, true)), (.len false (.tmp 13))⟩, ⟨(some 15), (some (11, true)), (.load 1 false (.tmp 3))⟩, ⟨(some 16), (some (11, true)), (.bin .eql (.tmp 14) (.tmp 15))⟩, ⟨(some 17), none, (.pick (.tmp 11) (.tmp 16) (.const (.bool false)))⟩, ⟨(some 18), none, (.mv (.tmp 17))⟩, ⟨(some 19), (some (18, true)), (.faddr 2 (.tmp 1))⟩, ⟨(some 20), (some (18, true)), (.load 1 false (.tmp 19))⟩, ⟨(some 21), (some (18, true)), (.len false (.tmp 20))⟩, ⟨(some 22), (some (18, true)), (.bin .leq (.tmp 21) (.const (.int .i64 (60))))⟩, ⟨(some 23), none, (.pick (.tmp 18) (.tmp 22) (.const (.bool false)))⟩, ⟨(some 24), none, (.mv (.tmp 23))⟩, ⟨(some 25), (some (24, true)), (.faddr 0 (.tmp 1))⟩, ⟨(some 26), (some (24, true)), (.load 1 false (.tmp 25))⟩, ⟨(some 27), (some (24, true)), (.callf (.func 127) [(.tmp 26)])⟩, ⟨(some 28), none, (.pick (.tmp 24) (.tmp 27) (.const (.bool false)))⟩, ⟨(some 29), none, (.mv (.tmp 28))⟩, ⟨(some 30), (some (29, true)), (.faddr 2 (.tmp 1))⟩, ⟨(some 31), (some (29, true)), (.load 1 false (.tmp 30))⟩, ⟨(some 32), (some (29, true)), (.callf (.func 128) [(.tmp 31)])⟩, ⟨(some 33), (some (29, true)), (.callf (.func 127) [(.tmp 32)])⟩, ⟨(some 34), none, (.pick (.tmp 29) (.tmp 33) (.const (.bool false)))⟩, ⟨(some 35), none, (.mv (.tmp 34))⟩, ⟨(some 36), (some (35, true)), (.faddr 2 (.tmp 1))⟩, ⟨(some 37), (some (35, true)), (.load 1 false (.tmp 36))⟩, ⟨(some 38), (some (35, true)), (.mv (.tmp 4))⟩, ⟨(some 39), (some (35, true)), (.callf (.func 129) [(.tmp 37), (.tmp 38)])⟩, ⟨(some 40), (some (35, true)), (.un .not (.tmp 39))⟩, ⟨(some 41), none, (.pick (.tmp 35) (.tmp 40) (.const (.bool false)))⟩, ⟨(some 2), none, (.mv (.tmp 41))⟩]) .ret))))
theorem cc73 : ccode Try.prog [] (Try.f73.body.getD .skip) = some c73 := by kernel_rfl
theorem body73 : Try.f73.body = some (Try.f73.body.getD .skip) := rfl

theorem mright_C (m : MD) (hw : ∀ s ∈ osl m.vars, s.length ≤ 1000000) (hr : ∀ r ∈ osl m.rows, r.name.length ≤ 1000000) : PureC Try.prog 73 [aMd m] (.ret (aB (rightMd m))) := by
  unfold rightMd
  by_cases h1 : (osl m.vars).length ≤ 60
  case neg =>
    rw [decide_eq_false h1, Bool.false_and]
    refine pureC_of (rs := [(RV.tmp 2)]) Try.func73 (fun a w => Try.call73 a w) body73 cc73 (by kernel_rfl) ?_
    rw [Try.ntmps73]
    simp only [frs, Nat.reduceAdd, Nat.reduceSub]
    repeat (first | (with_reducible first | refine Way.imp ?_ | refine blk_o rfl ?_) | ((with_reducible refine WayR.imp (fun K hK => ?_)); simp (disch := first | omega | (simp only [dls]; omega)) only [std, reduceIte, reduceCtorEq, Int.reduceToNat, Nat.reduceAdd, Nat.reduceSub, Nat.reduceMul, Int.reduceAdd, Int.reduceSub, Int.reduceMul, Int.reduceNeg, fU]; subst hK))
    exact ⟨_, rfl, rfl⟩
  rw [decide_eq_true h1, Bool.true_and]
  by_cases h2 : (osl m.cost).length = (osl m.vars).length
  case neg =>
    rw [decide_eq_false h2, Bool.false_and]
    refine pureC_of (rs := [(RV.tmp 2)]) Try.func73 (fun a w => Try.call73 a w) body73 cc73 (by kernel_rfl) ?_
    rw [Try.ntmps73]
    simp only [frs, Nat.reduceAdd, Nat.reduceSub]
    repeat (first | (with_reducible first | refine Way.imp ?_ | refine blk_o rfl ?_) | ((with_reducible refine WayR.imp (fun K hK => ?_)); simp (disch := first | omega | (simp only [dls]; omega)) only [std, reduceIte, reduceCtorEq, Int.reduceToNat, Nat.reduceAdd, Nat.reduceSub, Nat.reduceMul, Int.reduceAdd, Int.reduceSub, Int.reduceMul, Int.reduceNeg, fU]; subst hK))
    exact ⟨_, rfl, rfl⟩
  rw [decide_eq_true h2, Bool.true_and]
  by_cases h3 : (osl m.rows).length ≤ 60
  case neg =>
    rw [decide_eq_false h3, Bool.false_and]
    refine pureC_of (rs := [(RV.tmp 2)]) Try.func73 (fun a w => Try.call73 a w) body73 cc73 (by kernel_rfl) ?_
    rw [Try.ntmps73]
    simp only [frs, Nat.reduceAdd, Nat.reduceSub]
    repeat (first | (with_reducible first | refine Way.imp ?_ | refine blk_o rfl ?_) | ((with_reducible refine WayR.imp (fun K hK => ?_)); simp (disch := first | omega | (simp only [dls]; omega)) only [std, reduceIte, reduceCtorEq, Int.reduceToNat, Nat.reduceAdd, Nat.reduceSub, Nat.reduceMul, Int.reduceAdd, Int.reduceSub, Int.reduceMul, Int.reduceNeg, fU, h2]; subst hK))
    exact ⟨_, rfl, rfl⟩
  rw [decide_eq_true h3, Bool.true_and]
  have hn1 := names_C m.vars (by omega) hw
  have hrn := rowNames_C m (by omega)
  have hn2 := names_C (rowO (rowNm m)) (by rw [osl_rowO]; unfold rowNm; rw [List.length_map]; omega) (fun s hs => by
    rw [osl_rowO] at hs
    obtain ⟨r, hr', rfl⟩ := List.mem_map.1 hs
    exact hr r hr')
  rw [osl_rowO] at hn2
  have hc := conW_C m (osl m.vars).length (by omega) rfl (by omega)
  generalize rowO (rowNm m) = rn at *
  cases c1 : namesB (osl m.vars) with
  | false =>
    rw [c1] at hn1
    rw [Bool.false_and]
    refine pureC_of (rs := [(RV.tmp 2)]) Try.func73 (fun a w => Try.call73 a w) body73 cc73 (by kernel_rfl) ?_
    rw [Try.ntmps73]
    simp only [frs, Nat.reduceAdd, Nat.reduceSub]
    repeat (first | (with_reducible first | refine Way.imp ?_ | refine blk_o rfl ?_) | ((with_reducible refine WayR.imp (fun K hK => ?_)); simp (disch := first | omega | (simp only [dls]; omega)) only [std, reduceIte, reduceCtorEq, Int.reduceToNat, Nat.reduceAdd, Nat.reduceSub, Nat.reduceMul, Int.reduceAdd, Int.reduceSub, Int.reduceMul, Int.reduceNeg, fU, h2]; subst hK) | (apply call_any_g (hn1) rfl; (case hg => simp (disch := first | omega | (simp only [dls]; omega)) only [std, reduceIte, reduceCtorEq, Int.reduceToNat, Nat.reduceAdd, Nat.reduceSub, Nat.reduceMul, Int.reduceAdd, Int.reduceSub, Int.reduceMul, Int.reduceNeg, fU, h2]); (case hcl => (simp only [evs, St.ev, constAV, evl]; (repeat (first | exact closeAVs_nil | (apply closeAVs_cons; (first | (refine close_own3 rfl (by decide)) | (refine close_ownO rfl (by decide) ?_; assumption) | rfl)))); done)); (case hu => rfl)))
    exact ⟨_, rfl, rfl⟩
  | true =>
    rw [c1] at hn1
    rw [Bool.true_and]
    cases c2 : namesB (rowNm m) with
    | false =>
      rw [c2] at hn2
      rw [Bool.false_and]
      refine pureC_of (rs := [(RV.tmp 2)]) Try.func73 (fun a w => Try.call73 a w) body73 cc73 (by kernel_rfl) ?_
      rw [Try.ntmps73]
      simp only [frs, Nat.reduceAdd, Nat.reduceSub]
      repeat (first | (with_reducible first | refine Way.imp ?_ | refine blk_o rfl ?_) | ((with_reducible refine WayR.imp (fun K hK => ?_)); simp (disch := first | omega | (simp only [dls]; omega)) only [std, reduceIte, reduceCtorEq, Int.reduceToNat, Nat.reduceAdd, Nat.reduceSub, Nat.reduceMul, Int.reduceAdd, Int.reduceSub, Int.reduceMul, Int.reduceNeg, fU, h2]; subst hK) | (apply call_any_g (hn1) rfl; (case hg => simp (disch := first | omega | (simp only [dls]; omega)) only [std, reduceIte, reduceCtorEq, Int.reduceToNat, Nat.reduceAdd, Nat.reduceSub, Nat.reduceMul, Int.reduceAdd, Int.reduceSub, Int.reduceMul, Int.reduceNeg, fU, h2]); (case hcl => (simp only [evs, St.ev, constAV, evl]; (repeat (first | exact closeAVs_nil | (apply closeAVs_cons; (first | (refine close_own3 rfl (by decide)) | (refine close_ownO rfl (by decide) ?_; assumption) | rfl)))); done)); (case hu => rfl)) | (apply call_any_g (hrn) rfl; (case hg => simp (disch := first | omega | (simp only [dls]; omega)) only [std, reduceIte, reduceCtorEq, Int.reduceToNat, Nat.reduceAdd, Nat.reduceSub, Nat.reduceMul, Int.reduceAdd, Int.reduceSub, Int.reduceMul, Int.reduceNeg, fU, h2]); (case hcl => (simp only [evs, St.ev, constAV, evl]; (repeat (first | exact closeAVs_nil | (apply closeAVs_cons; (first | (refine close_own3 rfl (by decide)) | (refine close_ownO rfl (by decide) ?_; assumption) | rfl)))); done)); (case hu => rfl)) | (apply call_any_g (hn2) rfl; (case hg => simp (disch := first | omega | (simp only [dls]; omega)) only [std, reduceIte, reduceCtorEq, Int.reduceToNat, Nat.reduceAdd, Nat.reduceSub, Nat.reduceMul, Int.reduceAdd, Int.reduceSub, Int.reduceMul, Int.reduceNeg, fU, h2]); (case hcl => (simp only [evs, St.ev, constAV, evl]; (repeat (first | exact closeAVs_nil | (apply closeAVs_cons; (first | (refine close_own3 rfl (by decide)) | (refine close_ownO rfl (by decide) ?_; assumption) | rfl)))); done)); (case hu => rfl)))
      exact ⟨_, rfl, rfl⟩
    | true =>
      rw [c2] at hn2
      rw [Bool.true_and]
      generalize anyI (mdBad m) (osl m.rows).length = k at *
      refine pureC_of (rs := [(RV.tmp 2)]) Try.func73 (fun a w => Try.call73 a w) body73 cc73 (by kernel_rfl) ?_
      rw [Try.ntmps73]
      simp only [frs, Nat.reduceAdd, Nat.reduceSub]
      repeat (first | (with_reducible first | refine Way.imp ?_ | refine blk_o rfl ?_) | ((with_reducible refine WayR.imp (fun K hK => ?_)); simp (disch := first | omega | (simp only [dls]; omega)) only [std, reduceIte, reduceCtorEq, Int.reduceToNat, Nat.reduceAdd, Nat.reduceSub, Nat.reduceMul, Int.reduceAdd, Int.reduceSub, Int.reduceMul, Int.reduceNeg, fU, h2]; subst hK) | (apply call_any_g (hn1) rfl; (case hg => simp (disch := first | omega | (simp only [dls]; omega)) only [std, reduceIte, reduceCtorEq, Int.reduceToNat, Nat.reduceAdd, Nat.reduceSub, Nat.reduceMul, Int.reduceAdd, Int.reduceSub, Int.reduceMul, Int.reduceNeg, fU, h2]); (case hcl => (simp only [evs, St.ev, constAV, evl]; (repeat (first | exact closeAVs_nil | (apply closeAVs_cons; (first | (refine close_own3 rfl (by decide)) | (refine close_ownO rfl (by decide) ?_; assumption) | rfl)))); done)); (case hu => rfl)) | (apply call_any_g (hrn) rfl; (case hg => simp (disch := first | omega | (simp only [dls]; omega)) only [std, reduceIte, reduceCtorEq, Int.reduceToNat, Nat.reduceAdd, Nat.reduceSub, Nat.reduceMul, Int.reduceAdd, Int.reduceSub, Int.reduceMul, Int.reduceNeg, fU, h2]); (case hcl => (simp only [evs, St.ev, constAV, evl]; (repeat (first | exact closeAVs_nil | (apply closeAVs_cons; (first | (refine close_own3 rfl (by decide)) | (refine close_ownO rfl (by decide) ?_; assumption) | rfl)))); done)); (case hu => rfl)) | (apply call_any_g (hn2) rfl; (case hg => simp (disch := first | omega | (simp only [dls]; omega)) only [std, reduceIte, reduceCtorEq, Int.reduceToNat, Nat.reduceAdd, Nat.reduceSub, Nat.reduceMul, Int.reduceAdd, Int.reduceSub, Int.reduceMul, Int.reduceNeg, fU, h2]); (case hcl => (simp only [evs, St.ev, constAV, evl]; (repeat (first | exact closeAVs_nil | (apply closeAVs_cons; (first | (refine close_own3 rfl (by decide)) | (refine close_ownO rfl (by decide) ?_; assumption) | rfl)))); done)); (case hu => rfl)) | (apply call_flat_g (by simp (disch := first | omega | (simp only [dls]; omega)) only [std, reduceIte, reduceCtorEq, Int.reduceToNat, Nat.reduceAdd, Nat.reduceSub, Nat.reduceMul, Int.reduceAdd, Int.reduceSub, Int.reduceMul, Int.reduceNeg, fU, h2]) (hc) rfl; (case hcl => (simp only [evs, St.ev, constAV, evl]; (repeat (first | exact closeAVs_nil | (apply closeAVs_cons; (first | (refine close_own3 rfl (by decide)) | (refine close_ownO rfl (by decide) ?_; assumption) | rfl)))); done)); (case hf => rfl)))
      exact ⟨_, rfl, rfl⟩

end Go.Proofs.Ytdhkdnmefeeclaa
