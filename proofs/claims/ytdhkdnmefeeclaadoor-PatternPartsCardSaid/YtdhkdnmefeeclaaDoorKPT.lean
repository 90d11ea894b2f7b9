/- The law PatternParts: the walk (raw: it makes a map). -/
import Derived.WalkKit
import Derived.LoopTactic
import Derived.Handy
import Derived.Test.YtdhkdnmefeeclaaDoorMP
import Derived.Test.YtdhkdnmefeeclaaDoorUD
set_option linter.unusedSimpArgs false
set_option linter.unusedVariables false
set_option linter.unnecessarySimpa false
set_option linter.unusedSimpArgs false
set_option linter.unusedVariables false
set_option maxRecDepth 100000
set_option maxHeartbeats 4000000
namespace Go.Proofs.YtdhkdnmefeeclaaDoor
open Go Go.Am Go.Proofs Go.RowKit Go.Off

def seqTo (x : Nat → Int) : Nat → List Int
  | 0 => []
  | j + 1 => x j :: seqTo x j
theorem seqTo_len (x : Nat → Int) : ∀ j, (seqTo x j).length = j
  | 0 => rfl
  | j + 1 => by show (seqTo x j).length + 1 = _; rw [seqTo_len x j]

set_option maxRecDepth 1000000 in
theorem parts_walk (roll set : Int) (aw ar : Option Addr) (lw cw lr cr n : Nat) (ra rb x : Nat → Int) (rt : Nat → Bool) (w : World) (hcw : lw ≤ cw) (hcr : lr ≤ cr) (hn : n ≤ 100000)
    (hrc : ∀ i, i < lr → ∃ g off, ar = some ⟨g, off, none⟩ ∧ g < w.heap.size ∧ w.cell? ⟨g, off + i * 3, none⟩ = some (.int .i64 (ra i)) ∧ w.cell? ⟨g, off + i * 3 + 1, none⟩ = some (.int .i64 (rb i)) ∧ w.cell? ⟨g, off + i * 3 + 2, none⟩ = some (.bool (rt i)))
    (haw : ∀ W, Below w.heap.size w W → Calls Tryd.prog 29 #[] W fun e W' => e = .returned (.bool true) ∧ Below W.heap.size W W')
    (hall : ∀ W, Below w.heap.size w W → Calls Tryd.prog 35 #[.int .i64 roll, .slice aw lw cw, .slice ar lr cr] W fun e W' => ∃ al cl, e = .returned (.slice al n cl) ∧ Below W.heap.size W W' ∧ n ≤ cl ∧ ∀ i, i < n → ∃ g off, al = some ⟨g, off, none⟩ ∧ g < W'.heap.size ∧ W'.cell? ⟨g, off + i, none⟩ = some (.int .i64 (x i)))
    (h64 : ∀ i, i < n → (Lit.int .i64 (x i)).wf = true) (hpwf : ∀ i, i < n → (Lit.int .i64 (bits BinOp.and IntKind.i64 (x i) set)).wf = true) (hpart : (∀ i, i < lr → rt i = false) → ∀ i, i < n → 0 < bits BinOp.and IntKind.i64 (x i) set → (seqTo x n).contains (bits BinOp.and IntKind.i64 (x i) set) = true) :
    Calls Tryd.prog 10 #[.int .i64 roll, .slice aw lw cw, .slice ar lr cr, .int .i64 set] w fun e w' => e = .returned (.bool true) ∧ Below w.heap.size w w' := by
  go_enter Tryd.func10, Tryd.ntmps10
  by_cases h8 : lw ≤ 8
  · by_cases h20 : lr ≤ 20
    · go_wp2_with fail
      go_loopw [29] (fun n wr => ∃ j : Nat, j ≤ lr ∧ n = .int .i64 (j : Int) ∧ Below w.heap.size w wr ∧ ∀ i, i < j → rt i = false) (fun n _ => ((lr : Int) - intOf n).toNat)
      case atStart => exact ⟨0, by omega, rfl, Below.refl _ _, fun i hi => absurd hi (Nat.not_lt_zero _)⟩
      case round =>
        obtain ⟨j, hj, rfl, hb, hrt⟩ := hrel
        by_cases hjl : j = lr
        · subst hjl
          go_wp2_with fail
          go_call (hall _ hb) as e w2 ⟨al, cl, he, hb2, hcl, hce⟩
          subst he
          have hb3 := hb.trans (hb2.mono hb.size)
          have hmk := run_makeMap (P := Tryd.prog) 66 w2
          go_wp2_with fail
          go_loopw [44] (fun m wr => ∃ k : Nat, k ≤ n ∧ m = .int .i64 (k : Int) ∧ Below w2.heap.size w2 wr ∧ Seen wr w2.heap.size (seqTo x k)) (fun m _ => ((n : Int) - intOf m).toNat)
          case atStart => exact ⟨0, by omega, rfl, (Below.refl _ _).alloc (Nat.le_refl _) _, seen_made w2⟩
          case round =>
            obtain ⟨k, hk, rfl, hb4, hs⟩ := hrel
            by_cases hkn : k = n
            · subst hkn
              go_wp2_with fail
              go_loopw [53] (fun m wr => ∃ q : Nat, q ≤ k ∧ m = .int .i64 (q : Int) ∧ Below w2.heap.size w2 wr ∧ Seen wr w2.heap.size (seqTo x k)) (fun m _ => ((k : Int) - intOf m).toNat)
              case atStart => exact ⟨0, by omega, rfl, hb4, hs⟩
              case round =>
                obtain ⟨q, hq, rfl, hb5, hs5⟩ := hrel
                by_cases hqk : q = k
                · subst hqk
                  go_wp2_with fail
                  go_call (haw _ (hb3.trans (hb5.mono hb3.size))) as e w4 ⟨he, hb6⟩
                  subst he
                  go_wp2_with fail
                  go_ret
                  exact ⟨rfl, (hb3.trans (hb5.mono hb3.size)).trans (hb6.mono (hb3.trans (hb5.mono hb3.size)).size)⟩
                · have hltq : q < k := by omega
                  obtain ⟨g, off, rfl, hg, c0⟩ := hce q hltq
                  rw [← hb5.cell hg] at c0
                  have hpq := hpart hrt q hltq
                  have hlk := seen_look hs5 (hpwf q hltq)
                  by_cases hpos : 0 < bits BinOp.and IntKind.i64 (x q) set
                  · rw [hpq hpos] at hlk
                    go_wp2_with fail
                    refine ⟨⟨q + 1, hltq, by rw [show (((q + 1 : Nat) : Int)) = (q : Int) + 1 by omega], hb5, hs5⟩, ?_⟩
                    simp only [intOf]
                    omega
                  · go_wp2_with fail
                    refine ⟨⟨q + 1, hltq, by rw [show (((q + 1 : Nat) : Int)) = (q : Int) + 1 by omega], hb5, hs5⟩, ?_⟩
                    simp only [intOf]
                    omega
            · have hltk : k < n := by omega
              obtain ⟨g, off, rfl, hg, c0⟩ := hce k hltk
              rw [← hb4.cell hg] at c0
              obtain ⟨w3, hrun3, hs3, hg3⟩ := seen_put hs (by rw [seqTo_len]; omega) (h64 k hltk)
              go_wp2_with fail
              refine ⟨⟨k + 1, hltk, by rw [show (((k + 1 : Nat) : Int)) = (k : Int) + 1 by omega], hb4.grown hg3 hb4.size (fun q hq => by cases hq; exact Nat.le_refl _), hs3⟩, ?_⟩
              simp only [intOf]
              omega
        · have hlt : j < lr := by omega
          obtain ⟨g, off, rfl, hg, c0, c1, c2⟩ := hrc j hlt
          rw [← hb.cell hg] at c0 c1 c2
          have hbA := hb.alloc hb.size (Obj.cells #[.int .i64 (ra j), .int .i64 (rb j), .bool (rt j)] 63 (0, 0))
          cases ht : rt j with
          | true =>
            rw [ht] at c2 hbA
            go_wp2_with fail
            go_call (haw _ hbA) as e w2 ⟨he, hb2⟩
            subst he
            go_wp2_with fail
            go_ret
            exact ⟨rfl, hbA.trans (hb2.mono hbA.size)⟩
          | false =>
            rw [ht] at c2 hbA
            go_wp2_with fail
            refine ⟨⟨j + 1, hlt, by rw [show (((j + 1 : Nat) : Int)) = (j : Int) + 1 by omega], hbA, fun i hi => ?_⟩, ?_⟩
            · rcases Nat.lt_or_ge i j with h | h
              · exact hrt i h
              · rw [show i = j by omega]; exact ht
            · simp only [intOf]
              omega
    · go_wp2_with fail
      go_call (haw _ (Below.refl _ _)) as e w2 ⟨he, hb2⟩
      subst he
      go_wp2_with fail
      go_ret
      exact ⟨rfl, hb2⟩
  · go_wp2_with fail
    go_call (haw _ (Below.refl _ _)) as e w2 ⟨he, hb2⟩
    subst he
    go_wp2_with fail
    go_ret
    exact ⟨rfl, hb2⟩

end Go.Proofs.YtdhkdnmefeeclaaDoor
set_option linter.unusedSimpArgs false
set_option linter.unusedVariables false
set_option maxRecDepth 100000
set_option maxHeartbeats 4000000
namespace Go.Proofs.YtdhkdnmefeeclaaDoor
open Go Go.Am Go.Proofs Go.RowKit Go.Off

theorem bitN_test (n k : Nat) : bitN n k = n.testBit k := Nat.testBit_eq_decide_div_mod_eq.symm
theorem part_and (x : Nat) (hx : x < 4096) (set : Int) : ∃ y : Nat, bits BinOp.and IntKind.i64 ((x : Nat) : Int) set = (y : Int) ∧ y ≤ x ∧ ∀ k, bitN y k = true → bitN x k = true := by
  have a1 : (BitVec.ofInt IntKind.i64.bits ((x : Nat) : Int)).toNat = x := by
    rw [BitVec.toNat_ofInt]
    show (((x : Nat) : Int) % ((2 ^ 64 : Nat) : Int)).toNat = x
    omega
  have hle : x &&& (BitVec.ofInt IntKind.i64.bits set).toNat ≤ x := Nat.and_le_left
  refine ⟨x &&& (BitVec.ofInt IntKind.i64.bits set).toNat, ?_, hle, fun k hk => ?_⟩
  · have e : bits BinOp.and IntKind.i64 ((x : Nat) : Int) set = IntKind.i64.wrap ((BitVec.ofInt IntKind.i64.bits ((x : Nat) : Int) &&& BitVec.ofInt IntKind.i64.bits set).toNat : Int) := rfl
    rw [e, BitVec.toNat_and, a1]
    generalize x &&& (BitVec.ofInt IntKind.i64.bits set).toNat = y at *
    exact wi64 (by omega) (by omega)
  · rw [bitN_test, Nat.testBit_and] at hk
    rw [bitN_test]
    simp only [Bool.and_eq_true] at hk
    exact hk.1
theorem wide_part {roll : Int} {l : WI} (h : MayOk roll l) {x y : Nat} (hb : ∀ k, bitN y k = true → bitN x k = true) : ∀ k, k ≤ (osl l).length → wideL l (bitsTo y k) ≤ wideL l (bitsTo x k)
  | 0, _ => Int.le_refl _
  | k + 1, hk => by
    have ih := wide_part h hb k (by omega)
    obtain ⟨w1, _⟩ := h.wid k (by omega)
    have hk2 := hb k
    rw [bitsTo_succ, bitsTo_succ]
    cases hy : bitN y k with
    | true =>
      rw [hk2 hy, if_pos rfl, wideL_snoc, wideL_snoc]
      omega
    | false =>
      rw [if_neg (by simp), List.append_nil]
      split
      · rw [wideL_snoc]; omega
      · rw [List.append_nil]; exact ih
theorem part_pat {roll : Int} {l : WI} {r : RL} (ht : ∀ i, i < (osl r).length → (rlAt r i).tog = false) {x y : Nat} (hx : x ∈ patsL roll l r) (h0 : 0 < y) (hle : y ≤ x) (hb : ∀ k, bitN y k = true → bitN x k = true) : y ∈ patsL roll l r := by
  unfold patsL at hx ⊢
  cases hm : mayB roll l with
  | false => rw [hm] at hx; cases hx
  | true =>
    rw [hm, if_pos rfl] at hx
    rw [if_pos rfl]
    have mo := may_of hm
    unfold patL patTo at hx ⊢
    obtain ⟨h1, h2⟩ := List.mem_filter.1 hx
    have hx2 := List.mem_range.1 h1
    refine List.mem_filter.2 ⟨List.mem_range.2 (by omega), ?_⟩
    have hy2 : y < 2 ^ (osl l).length := by omega
    unfold isPat keepsB fitsB at h2 ⊢
    rw [Int.toNat_natCast] at h2 ⊢
    simp only [Bool.and_eq_true, decide_eq_true_eq] at h2 ⊢
    obtain ⟨p0, ⟨p1, p2, p3⟩, p4, p5, p6, p7⟩ := h2
    refine ⟨h0, ⟨p1, by omega, ?_⟩, p4, by omega, by exact_mod_cast hy2, ?_⟩
    · unfold allK
      rw [List.all_eq_true]
      intro i hi
      have hi2 := List.mem_range.1 hi
      have q := allK_at p3 hi2
      have ti := ht i hi2
      unfold okL okR at q ⊢
      rw [ti] at q ⊢
      have ba := hb (rlAt r i).a.toNat
      have bb := hb (rlAt r i).b.toNat
      generalize bitN y (rlAt r i).a.toNat = y1 at *
      generalize bitN y (rlAt r i).b.toNat = y2 at *
      generalize bitN x (rlAt r i).a.toNat = x1 at *
      generalize bitN x (rlAt r i).b.toNat = x2 at *
      revert q ba bb
      cases y1 <;> cases y2 <;> cases x1 <;> cases x2 <;> decide
    · have := wide_part mo hb (osl l).length (Nat.le_refl _)
      unfold wideN at p7 ⊢
      rw [items_to hx2 mo.len] at p7
      rw [items_to hy2 mo.len]
      omega
theorem seq_mem {x : Nat → Int} {z : Int} : ∀ {n : Nat}, (∃ i, i < n ∧ x i = z) → (seqTo x n).contains z = true
  | 0, ⟨i, hi, _⟩ => absurd hi (Nat.not_lt_zero _)
  | n + 1, ⟨i, hi, he⟩ => by
    show (x n :: seqTo x n).contains z = true
    by_cases h : i = n
    · subst h
      rw [← he]; simp
    · have := seq_mem (n := n) ⟨i, by omega, he⟩
      rw [List.contains_cons, this, Bool.or_true]

theorem enc_open {α : Type} {e : Nat} {f : α → List CV} (hfe : ∀ x, (f x).length = e) {w : World} {M : Nat → Prop} {l : Option (List α)} {v : Value} (h : CR w M (encSl e f l) v) :
    ∃ (a : Option Addr) (cap : Nat), v = .slice a (osl l).length cap ∧ (osl l).length ≤ cap ∧ (0 < (osl l).length → ∃ g off, a = some ⟨g, off, none⟩ ∧ g < w.heap.size ∧ ∀ i (hi : i < (osl l).length) j c, (f (osl l)[i])[j]? = some c → ∃ y, w.cell? ⟨g, off + (i * e + j), none⟩ = some y ∧ CR w M c y) := by
  cases l with
  | none => cases h; exact ⟨none, 0, rfl, Nat.le_refl _, fun hi => absurd hi (Nat.not_lt_zero _)⟩
  | some l =>
    change CR w M (.sl e (l.map f)) v at h
    show ∃ (a : Option Addr) (cap : Nat), v = .slice a l.length cap ∧ l.length ≤ cap ∧ (0 < l.length → _)
    generalize hm : l.map f = m at h
    have hml : m.length = l.length := by rw [← hm, List.length_map]
    cases h with
    | emp _ a =>
      have : l.length = 0 := by rw [← hml]; rfl
      rw [this]
      exact ⟨some a, 0, rfl, Nat.le_refl _, fun hi => absurd hi (Nat.not_lt_zero _)⟩
    | sl _ _ g off cap F hcap hbad hlt hrow hc hv =>
      rw [hml] at hcap
      refine ⟨some ⟨g, off, none⟩, cap, by rw [hml], hcap, fun _ => ⟨g, off, rfl, hlt, fun i hi j c hjc => ?_⟩⟩
      have hi2 : i < l.length := hi
      have hr : m[i]? = some (f l[i]) := by rw [← hm, List.getElem?_map, List.getElem?_eq_getElem hi2]; rfl
      have hj : j < e := by rw [← hfe l[i]]; exact (List.getElem?_eq_some_iff.1 hjc).1
      exact ⟨F i j, hc i j (by omega) hj, hv i j _ _ hr hjc⟩

end Go.Proofs.YtdhkdnmefeeclaaDoor
set_option linter.unusedSimpArgs false
set_option linter.unusedVariables false
set_option maxRecDepth 100000
set_option maxHeartbeats 4000000
namespace Go.Proofs.YtdhkdnmefeeclaaDoor
open Go Go.Am Go.Proofs Go.RowKit Go.Off

theorem avr_c {w : World} {M : Nat → Prop} {h : List Blk} {hd : Nat → Value} {x : CV} {v : Value} (hx : AVR w M h hd (.one (.c x)) v) : CR w M x v := by
  cases hx with
  | one _ _ hx => cases hx with
    | c _ _ hx => exact hx
theorem patternParts_C (roll : Int) (l : WI) (r : RL) (set : Int) : PureC Tryd.prog 10 [aI roll, aWs l, aRl r, aI set] (.ret (aB true)) := by
  refine ⟨fun a w => Tryd.call10 a w, fun w M vals hM hp => ?_⟩
  obtain ⟨v0, q0, e0, p0, hq0⟩ := PW.inv hp
  obtain rfl := e0
  obtain ⟨v1, q1, e1, p1, hq1⟩ := PW.inv hq0
  obtain rfl := e1
  obtain ⟨v2, q2, e2, p2, hq2⟩ := PW.inv hq1
  obtain rfl := e2
  obtain ⟨v3, q3, e3, p3, hq3⟩ := PW.inv hq2
  obtain rfl := e3
  obtain rfl : q3 = [] := List.length_eq_zero_iff.1 hq3.1.symm
  obtain rfl : v0 = .int .i64 roll := p0.val
  obtain rfl : v3 = .int .i64 set := p3.val
  obtain ⟨aw, cw, rfl, hcw, _⟩ := enc_open (e := 1) (f := fI) (fun _ => rfl) (avr_c p1)
  obtain ⟨ar, cr, rfl, hcr, hrc⟩ := enc_open (e := 3) (f := fRl) (fun _ => rfl) (avr_c p2)
  have hmono : ∀ {W : World}, Below w.heap.size w W → ((∀ g, M g → g < W.heap.size) ∧ GB M W.heap.size W) := fun hb => ⟨fun g hg => Nat.lt_of_lt_of_le (hM.1 g hg) hb.size, (hM.2.below hb).mono hb.size⟩
  have ht : ∀ {W : World} {x : CV} {v : Value}, Below w.heap.size w W → CR w M x v → CR W M x v := fun hb hx => hx.tr (fun g _ h => hb.block g h) (fun g h _ => h) hb.size
  have hoa := osl_allV roll l r
  have hplt := pats_lt (roll := roll) (l := l) (r := r)
  have hpl := pats_len roll l r
  have hWl : (osl (allV roll l r)).length = (patsL roll l r).length := by rw [hoa]; unfold natI; rw [List.length_map]
  have hxat : ∀ i (h : i < (osl (allV roll l r)).length), (osl (allV roll l r))[i] = ((patsL roll l r).getD i 0 : Nat) := fun i h => by
    have h2 : i < (patsL roll l r).length := by omega
    simp [hoa, natI, h2]
  have hmem : ∀ i, i < (osl (allV roll l r)).length → (patsL roll l r).getD i 0 ∈ patsL roll l r := fun i h => by
    have h2 : i < (patsL roll l r).length := by omega
    rw [List.getD_eq_getElem?_getD, List.getElem?_eq_getElem h2]
    exact List.getElem_mem h2
  refine (parts_walk roll set aw ar (osl l).length cw (osl r).length cr (osl (allV roll l r)).length (fun i => (rlAt r i).a) (fun i => (rlAt r i).b) (fun i => (((patsL roll l r).getD i 0 : Nat) : Int)) (fun i => (rlAt r i).tog) w hcw hcr (by omega) ?_ ?_ ?_ ?_ ?_ ?_).mono fun e w' ⟨he, hb⟩ => ?_
  · intro i hi
    obtain ⟨g, off, ha, hg, hc⟩ := hrc (by omega)
    obtain ⟨y0, c0, d0⟩ := hc i hi 0 _ rfl
    obtain ⟨y1, c1, d1⟩ := hc i hi 1 _ rfl
    obtain ⟨y2, c2, d2⟩ := hc i hi 2 _ rfl
    cases d0
    cases d1
    cases d2
    rw [rlAt_in hi]
    exact ⟨g, off, ha, hg, c0, c1, c2⟩
  · intro W hb
    refine (awake18_C.2 W M [] (hmono hb) .nil).mono ?_
    rintro e W' ⟨v, rfl, hb2, hr⟩
    obtain rfl : v = .bool true := hr.val
    exact ⟨rfl, hb2⟩
  · intro W hb
    refine ((all_C roll l r).2 W M [_, _, _] (hmono hb) (.cons (.one _ _ (.c _ _ (.val _ rfl))) (.cons (.one _ _ (.c _ _ (ht hb (avr_c p1)))) (.cons (.one _ _ (.c _ _ (ht hb (avr_c p2)))) .nil)))).mono ?_
    rintro e W' ⟨v, rfl, hb2, hr⟩
    obtain ⟨al, cl, rfl, hcl, hce⟩ := enc_open (e := 1) (f := fI) (fun _ => rfl) (avr_c hr)
    refine ⟨al, cl, rfl, hb2, hcl, fun i hi => ?_⟩
    obtain ⟨g, off, ha, hg, hc⟩ := hce (by omega)
    obtain ⟨y0, c0, d0⟩ := hc i hi 0 _ rfl
    cases d0
    rw [Nat.mul_one, Nat.add_zero, hxat i hi] at c0
    exact ⟨g, off, ha, hg, c0⟩
  · intro i hi
    have := (hplt _ (hmem i hi)).1
    generalize (patsL roll l r).getD i 0 = z at *
    simp [Lit.wf, IntKind.min, IntKind.max, IntKind.signed, IntKind.bits]
    omega
  · intro i hi
    have := (hplt _ (hmem i hi)).1
    generalize (patsL roll l r).getD i 0 = z at *
    obtain ⟨y, hy, hle, _⟩ := part_and z this set
    rw [hy]
    simp [Lit.wf, IntKind.min, IntKind.max, IntKind.signed, IntKind.bits]
    omega
  · intro hrt i hi hpos
    have hm := hmem i hi
    have := (hplt _ hm).1
    obtain ⟨y, hy, hle, hbit⟩ := part_and ((patsL roll l r).getD i 0) this set
    rw [hy] at hpos ⊢
    have hyp := part_pat hrt hm (by omega) hle hbit
    obtain ⟨k, hk, he⟩ := List.getElem_of_mem hyp
    refine seq_mem ⟨k, by omega, ?_⟩
    rw [List.getD_eq_getElem?_getD, List.getElem?_eq_getElem hk]
    exact congrArg Int.ofNat he
  · subst he
    exact ⟨_, rfl, hb, .one _ _ (.c _ _ (.val _ rfl))⟩

end Go.Proofs.YtdhkdnmefeeclaaDoor
