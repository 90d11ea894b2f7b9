/- pairs.Right: the walk (raw: it makes a map). -/
import Derived.WalkKit
import Derived.LoopTactic
import Derived.Handy
import Derived.Test.YtdhkdnmefeeclaaDoorMP
import Derived.Test.YtdhkdnmefeeclaaDoorUX
set_option linter.unusedSimpArgs false
set_option linter.unusedVariables false
set_option linter.unnecessarySimpa false
set_option linter.unusedSimpArgs false
set_option linter.unusedVariables false
set_option maxRecDepth 100000
set_option maxHeartbeats 4000000
namespace Go.Proofs.YtdhkdnmefeeclaaDoor
open Go Go.Am Go.Proofs Go.RowKit Go.Off

def setsTo (set : Nat → Int) : Nat → List Int
  | 0 => []
  | j + 1 => set j :: setsTo set j
theorem setsTo_len (set : Nat → Int) : ∀ j, (setsTo set j).length = j
  | 0 => rfl
  | j + 1 => by show (setsTo set j).length + 1 = _; rw [setsTo_len set j]
def okS (set sg : Nat → Int) (i : Nat) : Bool := (decide (1 ≤ set i) && (decide (set i < 4096) && !decide (sg i < 0))) && !(setsTo set i).contains (set i)
def rgB (set sg : Nat → Int) (n : Nat) : Bool := allK (okS set sg) n && decide (n ≤ 200)

set_option maxRecDepth 1000000 in
theorem right19_walk (a : Option Addr) (len cap : Nat) (set sg : Nat → Int) (mn : Nat → Bool) (a2 a3 : Nat → Option Addr) (n2 k2 n3 k3 : Nat → Nat) (w : World) (hcap : len ≤ cap) (hlen : len ≤ 100000)
    (h64 : ∀ i, i < len → (Lit.int .i64 (set i)).wf = true)
    (hc : ∀ i, i < len → ∃ g off, a = some ⟨g, off, none⟩ ∧ g < w.heap.size ∧ w.cell? ⟨g, off + i * 4, none⟩ = some (.int .i64 (set i)) ∧ w.cell? ⟨g, off + i * 4 + 1, none⟩ = some (.bool (mn i)) ∧ w.cell? ⟨g, off + i * 4 + 2, none⟩ = some (.slice (a2 i) (n2 i) (k2 i)) ∧ w.cell? ⟨g, off + i * 4 + 3, none⟩ = some (.slice (a3 i) (n3 i) (k3 i)))
    (hsg : ∀ i, i < len → ∀ W, Below w.heap.size w W → Calls Tryd.prog 49 #[.agg #[.bool (mn i), .slice (a2 i) (n2 i) (k2 i), .slice (a3 i) (n3 i) (k3 i)]] W fun e W' => e = .returned (.int .i64 (sg i)) ∧ Below W.heap.size W W') :
    Calls Tryd.prog 42 #[.slice a len cap] w fun e w' => e = .returned (.bool (rgB set sg len)) ∧ Below w.heap.size w w' := by
  go_enter Tryd.func42, Tryd.ntmps42
  have hmk := run_makeMap (P := Tryd.prog) 66 w
  go_wp2
  go_loopw [9] (fun n wr => ∃ j : Nat, j ≤ len ∧ n = .int .i64 (j : Int) ∧ Below w.heap.size w wr ∧ Seen wr w.heap.size (setsTo set j) ∧ allK (okS set sg) j = true) (fun n _ => ((len : Int) - intOf n).toNat)
  case atStart => exact ⟨0, by omega, rfl, (Below.refl _ _).alloc (Nat.le_refl _) _, seen_made w, rfl⟩
  case round =>
    obtain ⟨j, hj, rfl, hb, hs, hall⟩ := hrel
    by_cases hjl : j = len
    · subst hjl
      go_wp2
      go_ret
      refine ⟨?_, hb⟩
      unfold rgB
      rw [hall, Bool.true_and]
      have he : decide (((j : Nat) : Int) ≤ 200) = decide (j ≤ 200) := by rw [decide_eq_decide]; omega
      rw [← he]
      rfl
    · have hlt : j < len := by omega
      obtain ⟨g, off, rfl, hg, c0, c1, c2, c3⟩ := hc j hlt
      rw [← hb.cell hg] at c0 c1 c2 c3
      have hsj := hsg j hlt
      have hsz := hs.lt
      have hfin : okS set sg j = false → rgB set sg len = false := fun h => by unfold rgB; rw [allK_false hlt h]; rfl
      have hbA := hb.alloc (Nat.le_of_lt hsz) (Obj.cells #[.int .i64 (set j), .bool (mn j), .slice (a2 j) (n2 j) (k2 j), .slice (a3 j) (n3 j) (k3 j)] 50 (0, 0))
      by_cases h1 : set j < 1
      · go_wp2_with fail
        go_ret
        refine ⟨?_, hbA⟩
        rw [hfin (by unfold okS; rw [decide_eq_false (by omega)]; rfl)]
        rfl
      · by_cases h2 : 4096 ≤ set j
        · go_wp2_with fail
          go_ret
          refine ⟨?_, hbA⟩
          rw [hfin (by unfold okS; rw [decide_eq_false (p := set j < 4096) (by omega)]; simp)]
          rfl
        · go_wp2_with fail
          go_call (hsj _ hbA) as e w2 ⟨he, hb2⟩
          subst he
          have hb3 : Below w.heap.size w w2 := hbA.trans (hb2.mono (by simp; omega))
          have hsn : Seen w2 w.heap.size (setsTo set j) := (hs.grown (World.grownBy_alloc wr _ none) (by simp)).below hb2
          have cp : w2.cell? ⟨wr.heap.size, 0, none⟩ = some (.int .i64 (set j)) := by
            rw [hb2.cell (by simp)]
            simp [go_sem]
          have hlk := seen_look hsn (h64 j hlt)
          obtain ⟨w3, hrun3, hs3, hg3⟩ := seen_put hsn (by rw [setsTo_len]; omega) (h64 j hlt)
          cases hcn : (setsTo set j).contains (set j) with
          | true =>
            rw [hcn] at hlk
            have hko : okS set sg j = false := by unfold okS; rw [hcn]; simp
            by_cases h3 : sg j < 0
            · go_wp2_with fail
              go_ret
              exact ⟨by rw [hfin hko]; rfl, hb3⟩
            · go_wp2_with fail
              go_ret
              exact ⟨by rw [hfin hko]; rfl, hb3⟩
          | false =>
            rw [hcn] at hlk
            by_cases h3 : sg j < 0
            · have hko : okS set sg j = false := by unfold okS; rw [decide_eq_true h3]; simp
              go_wp2_with fail
              go_ret
              exact ⟨by rw [hfin hko]; rfl, hb3⟩
            · have hyes : okS set sg j = true := by unfold okS; rw [hcn, decide_eq_false h3, decide_eq_true (show 1 ≤ set j by omega), decide_eq_true (show set j < 4096 by omega)]; rfl
              go_wp2_with fail
              refine ⟨⟨j + 1, hlt, by rw [show (((j + 1 : Nat) : Int)) = (j : Int) + 1 by omega], hb3.grown hg3 hb3.size (fun k hk => by cases hk; exact Nat.le_refl _), hs3, by rw [allK_succ, hall, hyes]; rfl⟩, ?_⟩
              simp only [intOf]
              omega

/-- A part of a mix. -/
structure Prt where
  set : Int
  v : RR
def fPt (p : Prt) : List CV := [.val (.int .i64 p.set), .val (.bool p.v.minus), nr p.v.size, nr p.v.den]
abbrev PL := Option (List Prt)
abbrev aPl (l : PL) : AV := .one (.c (encSl 4 fPt l))
def ptAt (l : PL) (i : Nat) : Prt := (osl l).getD i ⟨0, zR⟩
theorem ptAt_in {l : PL} {i : Nat} (h : i < (osl l).length) : ptAt l i = (osl l)[i] := by
  unfold ptAt; rw [List.getD_eq_getElem?_getD, List.getElem?_eq_getElem h]; rfl
def rightP (l : PL) : Bool := rgB (fun i => (ptAt l i).set) (fun i => sgn (ptAt l i).v.top) (osl l).length
/-- A mix whose numbers are not too long. -/
def FitsP (l : PL) (L : Nat) : Prop := (∀ p ∈ osl l, -9223372036854775808 ≤ p.set ∧ p.set ≤ 9223372036854775807) ∧ ∀ p ∈ osl l, Fits p.v L

theorem slice_of {w : World} {bad : Nat → Prop} {r : Row} {v : Value} (h : CR w bad (nr r) v) : ∃ (a : Option Addr) (n k : Nat), v = .slice a n k := by
  cases r with
  | none => cases h; exact ⟨_, _, _, rfl⟩
  | some l =>
    change CR w bad (.sl 1 (l.map fU)) v at h
    generalize l.map fU = m at h
    cases h with
    | sl => exact ⟨_, _, _, rfl⟩
    | emp => exact ⟨_, _, _, rfl⟩

theorem pl_open {w : World} {M : Nat → Prop} {l : PL} {v : Value} (h : CR w M (encSl 4 fPt l) v) : ∃ (a : Option Addr) (cap : Nat), v = .slice a (osl l).length cap ∧ (osl l).length ≤ cap ∧ ∀ i, i < (osl l).length → ∃ g off x2 x3,
    a = some ⟨g, off, none⟩ ∧ g < w.heap.size ∧ w.cell? ⟨g, off + i * 4, none⟩ = some (.int .i64 (ptAt l i).set) ∧ w.cell? ⟨g, off + i * 4 + 1, none⟩ = some (.bool (ptAt l i).v.minus) ∧ (w.cell? ⟨g, off + i * 4 + 2, none⟩ = some x2 ∧ CR w M (nr (ptAt l i).v.size) x2) ∧ (w.cell? ⟨g, off + i * 4 + 3, none⟩ = some x3 ∧ CR w M (nr (ptAt l i).v.den) x3) := by
  cases l with
  | none => cases h; exact ⟨none, 0, rfl, Nat.le_refl _, fun i hi => absurd hi (Nat.not_lt_zero _)⟩
  | some l =>
    change CR w M (.sl 4 (l.map fPt)) v at h
    show ∃ (a : Option Addr) (cap : Nat), v = .slice a l.length cap ∧ l.length ≤ cap ∧ _
    generalize hm : l.map fPt = m at h
    have hml : m.length = l.length := by rw [← hm, List.length_map]
    cases h with
    | emp _ a =>
      have : l.length = 0 := by rw [← hml]; rfl
      rw [this]
      exact ⟨some a, 0, rfl, Nat.le_refl _, fun i hi => absurd hi (by show ¬ i < l.length; omega)⟩
    | sl _ _ g off cap f hcap hbad hlt hrow hc hv =>
      rw [hml] at hcap
      refine ⟨some ⟨g, off, none⟩, cap, by rw [hml], hcap, fun i hi => ?_⟩
      have hi2 : i < l.length := hi
      have hr : m[i]? = some (fPt (ptAt (some l) i)) := by
        rw [ptAt_in hi, ← hm, List.getElem?_map, List.getElem?_eq_getElem hi2]; rfl
      have e0 := hv i 0 _ _ hr rfl
      have e1 := hv i 1 _ _ hr rfl
      have e2 := hv i 2 _ _ hr rfl
      have e3 := hv i 3 _ _ hr rfl
      have c0 := hc i 0 (by omega) (by decide)
      have c1 := hc i 1 (by omega) (by decide)
      have c2 := hc i 2 (by omega) (by decide)
      have c3 := hc i 3 (by omega) (by decide)
      generalize f i 0 = y0 at *
      generalize f i 1 = y1 at *
      cases e0
      cases e1
      exact ⟨g, off, f i 2, f i 3, rfl, hlt, c0, c1, ⟨c2, e2⟩, ⟨c3, e3⟩⟩

theorem pright19_C (l : PL) (L : Nat) (hf : FitsP l L) (hL : L ≤ 1000000) (hl : (osl l).length ≤ 100000) : PureC Tryd.prog 42 [aPl l] (.ret (aB (rightP l))) := by
  refine ⟨fun a w => Tryd.call42 a w, fun w M vals hM hp => ?_⟩
  obtain ⟨v0, q0, e0, p0, hq⟩ := PW.inv hp
  obtain rfl := e0
  obtain rfl : q0 = [] := List.length_eq_zero_iff.1 hq.1.symm
  have hcr : CR w M (encSl 4 fPt l) v0 := by
    cases p0 with
    | one _ _ hx => cases hx with
      | c _ _ hx => exact hx
  obtain ⟨a, cap, rfl, hcap, hcell⟩ := pl_open hcr
  have hch : ∀ i, ∃ t : (Option Addr × Nat × Nat) × (Option Addr × Nat × Nat), i < (osl l).length → (∃ g off, a = some ⟨g, off, none⟩ ∧ g < w.heap.size ∧ w.cell? ⟨g, off + i * 4, none⟩ = some (.int .i64 (ptAt l i).set) ∧ w.cell? ⟨g, off + i * 4 + 1, none⟩ = some (.bool (ptAt l i).v.minus) ∧ w.cell? ⟨g, off + i * 4 + 2, none⟩ = some (.slice t.1.1 t.1.2.1 t.1.2.2) ∧ w.cell? ⟨g, off + i * 4 + 3, none⟩ = some (.slice t.2.1 t.2.2.1 t.2.2.2)) ∧
      CR w M (nr (ptAt l i).v.size) (.slice t.1.1 t.1.2.1 t.1.2.2) ∧ CR w M (nr (ptAt l i).v.den) (.slice t.2.1 t.2.2.1 t.2.2.2) := by
    intro i
    by_cases hi : i < (osl l).length
    · obtain ⟨g, off, x2, x3, h1, h2, h3, h4, ⟨h5, h6⟩, ⟨h7, h8⟩⟩ := hcell i hi
      obtain ⟨a2, n2, k2, rfl⟩ := slice_of h6
      obtain ⟨a3, n3, k3, rfl⟩ := slice_of h8
      exact ⟨((a2, n2, k2), (a3, n3, k3)), fun _ => ⟨⟨g, off, h1, h2, h3, h4, h5, h7⟩, h6, h8⟩⟩
    · exact ⟨((none, 0, 0), (none, 0, 0)), fun h => absurd h hi⟩
  obtain ⟨F, hF⟩ := Classical.axiomOfChoice hch
  refine (right19_walk a (osl l).length cap (fun i => (ptAt l i).set) (fun i => sgn (ptAt l i).v.top) (fun i => (ptAt l i).v.minus) (fun i => (F i).1.1) (fun i => (F i).2.1) (fun i => (F i).1.2.1) (fun i => (F i).1.2.2) (fun i => (F i).2.2.1) (fun i => (F i).2.2.2) w hcap hl (fun i hi => ?_) (fun i hi => (hF i hi).1) (fun i hi W hb => ?_)).mono fun e w' ⟨he, hb⟩ => ?_
  · have := hf.1 _ (List.getElem_mem hi)
    show (Lit.int .i64 (ptAt l i).set).wf = true
    rw [ptAt_in hi]
    simpa [Lit.wf, IntKind.min, IntKind.max, IntKind.signed, IntKind.bits] using this
  · obtain ⟨_, h2, h3⟩ := hF i hi
    have hfr : Fits (ptAt l i).v 1000000000 := by rw [ptAt_in hi]; exact (hf.2 _ (List.getElem_mem hi)).mono (by omega)
    have ht : ∀ {x : CV} {v : Value}, CR w M x v → CR W M x v := fun hx => hx.tr (fun g _ h => hb.block g h) (fun g h _ => h) hb.size
    have hav : AVR W M [] hd00 (aR (ptAt l i).v) (.agg #[.bool (ptAt l i).v.minus, .slice (F i).1.1 (F i).1.2.1 (F i).1.2.2, .slice (F i).2.1 (F i).2.2.1 (F i).2.2.2]) :=
      .agg _ [.bool (ptAt l i).v.minus, .slice (F i).1.1 (F i).1.2.1 (F i).1.2.2, .slice (F i).2.1 (F i).2.2.1 (F i).2.2.2] rfl (fun k c v h1 h4 => by
        match k, h1, h4 with
        | 0, h1, h4 => cases h1; cases h4; exact .c _ _ (.val _ rfl)
        | 1, h1, h4 => cases h1; cases h4; exact .c _ _ (ht h2)
        | 2, h1, h4 => cases h1; cases h4; exact .c _ _ (ht h3))
    refine ((rsign_C (ptAt l i).v hfr).2 W M [_] ⟨fun g hg => Nat.lt_of_lt_of_le (hM.1 g hg) hb.size, (hM.2.below hb).mono hb.size⟩ (.cons hav .nil)).mono ?_
    rintro e W' ⟨v, rfl, hb2, hr⟩
    have : v = .int .i64 (sgn (ptAt l i).v.top) := hr.val
    subst this
    exact ⟨rfl, hb2⟩
  · subst he
    exact ⟨_, rfl, hb, .one _ _ (.c _ _ (.val _ rfl))⟩

end Go.Proofs.YtdhkdnmefeeclaaDoor
