/- Walks of stock: Each and its closure. -/
import Derived.RangeFuncBox
import Derived.RangeFuncBound
import Derived.Shelf.Abstract
import Derived.WalkKit
import Derived.OwnWalkIn
import Derived.TacticsInMore
import Derived.LoopNIn
import Derived.LoopIn
import Derived.Test.YtdhkdnmefeeclaaProg
import Derived.Test.YtdhkdnmefeeclaaA6
import Derived.Test.YtdhkdnmefeeclaaC1
import Derived.Test.YtdhkdnmefeeclaaJA
import Derived.Test.YtdhkdnmefeeclaaVK
set_option linter.unusedSimpArgs false
set_option linter.unusedVariables false
set_option linter.unnecessarySimpa false
set_option linter.unusedSimpArgs false
set_option linter.unusedVariables false
set_option maxRecDepth 100000
set_option maxHeartbeats 4000000
namespace Go.Proofs.Ytdhkdnmefeeclaa
open Go Go.Am Go.Proofs Go.RowKit Go.Shelf Go.Off

attribute [local go_sem] Oper.semAt_some

/-- All widths that are gone through: which one, and of which item. -/
def eachTo (g : Nat → Int) : Nat → List (Nat × Nat)
  | 0 => []
  | k + 1 => eachTo g k ++ (List.range (g k).toNat).map (fun j => ((eachTo g k).length + j, k))
def eachIn (g : Nat → Int) (k j : Nat) : List (Nat × Nat) := eachTo g k ++ (List.range j).map (fun j => ((eachTo g k).length + j, k))
theorem eachIn_succ (g : Nat → Int) (k j : Nat) : eachIn g k (j + 1) = eachIn g k j ++ [((eachTo g k).length + j, k)] := by unfold eachIn; rw [List.range_succ, List.map_append, List.append_assoc]; rfl
theorem eachTo_len (g : Nat → Int) (hg : ∀ i, g i ≤ 1024) (k : Nat) : (eachTo g k).length ≤ k * 1024 := by
  induction k with
  | zero => exact Nat.le_refl _
  | succ k ih =>
    have := hg k
    show (eachTo g k ++ _).length ≤ _
    rw [List.length_append, List.length_map, List.length_range]
    omega
theorem eachTo_succ_len (g : Nat → Int) (k : Nat) : (eachTo g (k + 1)).length = (eachTo g k).length + (g k).toNat := by
  show (eachTo g k ++ _).length = _
  rw [List.length_append, List.length_map, List.length_range]
theorem eachTo_mono (g : Nat → Int) {k n : Nat} (h : k ≤ n) : (eachTo g k).length ≤ (eachTo g n).length := by
  induction n with
  | zero => obtain rfl : k = 0 := by omega
            exact Nat.le_refl _
  | succ n ih =>
    by_cases e : k = n + 1
    · rw [e]; exact Nat.le_refl _
    · have := ih (by omega)
      rw [eachTo_succ_len]; omega
theorem eachIn_len (g : Nat → Int) (k j : Nat) : (eachIn g k j).length = (eachTo g k).length + j := by unfold eachIn; rw [List.length_append, List.length_map, List.length_range]
abbrev Ti : Nat → Prop := fun t => t = 121

set_option maxRecDepth 100000 in
set_option maxHeartbeats 4000000 in
theorem each1_in (F : Fence) (hF : F.fn 187) (hF2 : F.fn 132) (hro : F.round = none) (n : Nat) (hn : 1 ≤ n) (l As oa : Nat) (ba off len cap : Nat) (roll : Int) (w : World) (bad : Nat → Prop) (f g : Nat → Int)
    (hlen : len ≤ 60) (hAl : As < w.heap.size) (hAn : ¬ bad As) (hal : ba < w.heap.size) (han : ¬ bad ba) (J Jx : List (Nat × Nat) → World → Prop) (W : World)
    (hY : ∀ pre (x : Nat × Nat) W, J pre W → pre.length < (eachTo g len).length → YieldAt F (n - 1) Try.prog l #[.int .i64 (x.1 : Int), .int .i64 (f x.2)] W fun e W' =>
      ∃ b, e = .returned (.bool b) ∧ (b = true → J (pre ++ [x]) W' ∧ KpT Ti w bad W W') ∧ (b = false → Jx (pre ++ [x]) W'))
    (hJd : ∀ pre W W', J pre W → W.grownBy W' none → J pre W') (hwW : w.heap.size ≤ W.heap.size) (hcap : len ≤ cap) (hg : ∀ i, 0 ≤ g i ∧ g i ≤ 1024)
    (hR : CallsIn F (n - 1) Try.prog 132 #[.agg #[.int .i64 roll, .slice (some ⟨ba, off, none⟩) len cap]] W fun e W' => e = .returned (.bool true) ∧ W.grownBy W' none)
    (hAs0 : W.cell? ⟨As, oa, none⟩ = some (.int .i64 roll)) (hAs : W.cell? ⟨As, oa + 1, none⟩ = some (.slice (some ⟨ba, off, none⟩) len cap))
    (hc0 : ∀ i, i < len → W.cell? ⟨ba, off + i * 2, none⟩ = some (.int .i64 (f i))) (hc1 : ∀ i, i < len → W.cell? ⟨ba, off + i * 2 + 1, none⟩ = some (.int .i64 (g i))) (h0 : J [] W) :
    CallsIn F n Try.prog 187 #[.func (.yield l) #[] #[], .pointer (some ⟨As, oa, none⟩)] W fun e W' => (∃ v, e = .returned v) ∧
      ((∃ ys, ys = eachTo g len ∧ J ys W') ∨ (∃ pre, True ∧ Jx pre W')) := by
  refine callsIn_of_wp Try.func187 rfl hF ?_ hro
  simp only [Try.ntmps187, List.size_toArray, List.length_cons, List.length_nil, Nat.reduceAdd, Nat.reduceSub, Array.replicate_succ, Array.replicate_zero, List.push_toArray, List.append_toArray, List.nil_append, List.cons_append]
  gi_wp2
  refine hR.mono ?_
  rintro e W1 ⟨rfl, hg1⟩
  have hk1 : KpT Ti w bad W W1 := ⟨⟨hg1.size, fun g hg hb cs t o h => (hg1.block g (by omega) (by simp)).trans h⟩, fun g hg cs t o _ h => (hg1.block g ((Array.getElem?_eq_some_iff.1 h).1) (by simp)).trans h⟩
  have hJ1 := hJd _ _ _ h0 hg1
  have hAs1 : W1.cell? ⟨As, oa + 1, none⟩ = some (.slice (some ⟨ba, off, none⟩) len cap) := kp_cell hk1.1 hAl hAn hAs
  gi_wp2
  gi_loopw [3, 12] (fun v3 v12 wr => ∃ k : Nat, k ≤ len ∧ v12 = .int .i64 (k : Int) ∧ v3 = .int .i64 (((eachTo g k).length : Nat) : Int) ∧ J (eachTo g k) wr ∧ KpT Ti w bad W wr)
      (fun _ i _ => ((len : Int) - intOf i).toNat)
  case atStart => exact ⟨0, by omega, rfl, rfl, hJ1, hk1⟩
  case round =>
    obtain ⟨k, hk, rfl, rfl, hJs, hnx⟩ := hrel
    by_cases hkm : k = len
    · subst hkm
      gi_wp2
      go_end0
      exact ⟨⟨_, rfl⟩, .inl ⟨_, rfl, hJs⟩⟩
    · have hlt : k < len := by omega
      have hf2 : wr.cell? ⟨ba, off + k * 2, none⟩ = some (.int .i64 (f k)) := kp_cell hnx.1 hal han (hc0 k hlt)
      have hg2 : wr.cell? ⟨ba, off + k * 2 + 1, none⟩ = some (.int .i64 (g k)) := kp_cell hnx.1 hal han (hc1 k hlt)
      gi_wp2
      have hg5 : wr.grownBy (wr.alloc (Obj.cells #[Value.int IntKind.i64 (f k), Value.int IntKind.i64 (g k)] 121)) none := below_grown ((Below.refl _ wr).alloc (Nat.le_refl _) _)
      have hn5 : (wr.alloc (Obj.cells #[Value.int IntKind.i64 (f k), Value.int IntKind.i64 (g k)] 121)).heap[wr.heap.size]? = some (Obj.cells #[Value.int IntKind.i64 (f k), Value.int IntKind.i64 (g k)] 121) := World.alloc_heap_new wr _
      generalize wr.alloc (Obj.cells #[Value.int IntKind.i64 (f k), Value.int IntKind.i64 (g k)] 121) = w5 at hg5 hn5 ⊢
      have hJ5 := hJd _ _ _ hJs hg5
      have hk5 : KpT Ti w bad W w5 := hnx.trans ⟨⟨hg5.size, fun g hg hb cs t o h => (hg5.block g (Array.getElem?_eq_some_iff.1 h).1 (by simp)).trans h⟩, fun g hg cs t o _ h => (hg5.block g ((Array.getElem?_eq_some_iff.1 h).1) (by simp)).trans h⟩
      have hwr : w.heap.size ≤ wr.heap.size := Nat.le_trans hwW hnx.1.1
      generalize hB5 : wr.heap.size = B5 at *
      have hgk := hg k
      have hlk := eachTo_len g (fun i => (hg i).2) k
      have hsub : (eachTo g (k + 1)).length ≤ (eachTo g len).length := eachTo_mono g (by omega)
      have hls : (eachTo g (k + 1)).length = (eachTo g k).length + (g k).toNat := eachTo_succ_len g k
      gi_loopw [3, 18] (fun v3 v18 w2 => ∃ j : Nat, (j : Int) ≤ g k ∧ v18 = .int .i64 (j : Int) ∧ v3 = .int .i64 (((eachTo g k).length : Int) + (j : Int)) ∧ J (eachIn g k j) w2 ∧ KpT Ti w bad W w2 ∧ w2.heap[B5]? = some (Obj.cells #[Value.int IntKind.i64 (f k), Value.int IntKind.i64 (g k)] 121))
          (fun _ i _ => (g k - intOf i).toNat)
      case atStart => exact ⟨0, by omega, rfl, by simp, by simpa [eachIn] using hJ5, hk5, hn5⟩
      case round =>
        obtain ⟨j, hj, rfl, rfl, hJ2, hk2, hb2⟩ := hrel
        by_cases hjm : (j : Int) = g k
        · gi_wp2
          go_roundw
          case rel =>
            refine ⟨k + 1, hlt, rfl, ?_, ?_, hk2⟩
            · rw [hls]; congr 1; omega
            · have : eachIn g k j = eachTo g (k + 1) := by
                show eachTo g k ++ _ = eachTo g k ++ _
                rw [show (g k).toNat = j by omega]
              rw [← this]; exact hJ2
          case measure => simp [intOf]; omega
        · have hjl : (j : Int) < g k := by omega
          have hcf : wr.cell? ⟨B5, 0, none⟩ = some (.int .i64 (f k)) := by unfold World.cell?; rw [hb2]; rfl
          obtain ⟨fn, tmps, assign, body, hy, hR⟩ := hY _ ((eachTo g k).length + j, k) wr hJ2 (by rw [eachIn_len]; omega)
          dsimp only at hy
          have e1 : (((eachTo g k).length + j : Nat) : Int) = ((eachTo g k).length : Int) + (j : Int) := by omega
          rw [e1] at hy
          gi_wp2
          refine hR.mono ?_
          rintro e W3 ⟨b, rfl, hbt, hbf⟩
          cases b
          · gi_wp2
            refine bodyPost_ret (results_none rfl _ _ _) rfl ?_
            exact ⟨⟨_, rfl⟩, .inr ⟨_, trivial, hbf (by simp)⟩⟩
          · obtain ⟨hJ3, hk3⟩ := hbt rfl
            gi_wp2
            go_roundw
            case rel =>
              refine ⟨j + 1, by omega, by simp, by simp; omega, by rw [eachIn_succ]; exact hJ3, hk2.trans hk3, ?_⟩
              exact hk3.2 B5 (by omega) _ _ _ rfl hb2
            case measure => simp [intOf]; omega

set_option maxRecDepth 100000 in
set_option maxHeartbeats 4000000 in
theorem each1_nil_in (F : Fence) (hF : F.fn 187) (hF2 : F.fn 132) (hro : F.round = none) (n : Nat) (hn : 1 ≤ n) (l As oa : Nat) (pa : Option Addr) (cap : Nat) (roll : Int) (J : List (Nat × Nat) → World → Prop) (W : World)
    (hJd : ∀ pre W W', J pre W → W.grownBy W' none → J pre W') (hAl : As < W.heap.size)
    (hR : CallsIn F (n - 1) Try.prog 132 #[.agg #[.int .i64 roll, .slice pa 0 cap]] W fun e W' => e = .returned (.bool true) ∧ W.grownBy W' none)
    (hAs0 : W.cell? ⟨As, oa, none⟩ = some (.int .i64 roll)) (hAs : W.cell? ⟨As, oa + 1, none⟩ = some (.slice pa 0 cap)) (h0 : J [] W) :
    CallsIn F n Try.prog 187 #[.func (.yield l) #[] #[], .pointer (some ⟨As, oa, none⟩)] W fun e W' => (∃ v, e = .returned v) ∧ J [] W' := by
  refine callsIn_of_wp Try.func187 rfl hF ?_ hro
  simp only [Try.ntmps187, List.size_toArray, List.length_cons, List.length_nil, Nat.reduceAdd, Nat.reduceSub, Array.replicate_succ, Array.replicate_zero, List.push_toArray, List.append_toArray, List.nil_append, List.cons_append]
  gi_wp2
  refine hR.mono ?_
  rintro e W1 ⟨rfl, hg1⟩
  have hJ1 := hJd _ _ _ h0 hg1
  have hAs1 : W1.cell? ⟨As, oa + 1, none⟩ = some (.slice pa 0 cap) := by
    unfold World.cell? at hAs ⊢
    rw [hg1.block As hAl (by simp)]
    exact hAs
  gi_wp2
  gi_loopw [3, 12] (fun v3 v12 wr => v12 = .int .i64 0 ∧ J [] wr) (fun _ _ _ => 0)
  case atStart => exact ⟨rfl, hJ1⟩
  case round =>
    obtain ⟨rfl, hJs⟩ := hrel
    gi_wp2
    go_end0
    exact ⟨⟨_, rfl⟩, hJs⟩

set_option maxRecDepth 100000 in
set_option maxHeartbeats 4000000 in
theorem each1_no_in (F : Fence) (hF : F.fn 187) (hF2 : F.fn 132) (hro : F.round = none) (n : Nat) (hn : 1 ≤ n) (l As oa : Nat) (pa : Option Addr) (len cap : Nat) (roll : Int) (J : List (Nat × Nat) → World → Prop) (W : World)
    (hJd : ∀ pre W W', J pre W → W.grownBy W' none → J pre W')
    (hR : CallsIn F (n - 1) Try.prog 132 #[.agg #[.int .i64 roll, .slice pa len cap]] W fun e W' => e = .returned (.bool false) ∧ W.grownBy W' none)
    (hAs0 : W.cell? ⟨As, oa, none⟩ = some (.int .i64 roll)) (hAs : W.cell? ⟨As, oa + 1, none⟩ = some (.slice pa len cap)) (h0 : J [] W) :
    CallsIn F n Try.prog 187 #[.func (.yield l) #[] #[], .pointer (some ⟨As, oa, none⟩)] W fun e W' => (∃ v, e = .returned v) ∧ J [] W' := by
  refine callsIn_of_wp Try.func187 rfl hF ?_ hro
  simp only [Try.ntmps187, List.size_toArray, List.length_cons, List.length_nil, Nat.reduceAdd, Nat.reduceSub, Array.replicate_succ, Array.replicate_zero, List.push_toArray, List.append_toArray, List.nil_append, List.cons_append]
  gi_wp2
  refine hR.mono ?_
  rintro e W1 ⟨rfl, hg1⟩
  have hJ1 := hJd _ _ _ h0 hg1
  gi_wp2
  refine bodyPost_ret (results_none rfl _ _ _) rfl ?_
  exact ⟨⟨_, rfl⟩, hJ1⟩

end Go.Proofs.Ytdhkdnmefeeclaa
set_option linter.unusedSimpArgs false
set_option linter.unusedVariables false
set_option maxRecDepth 100000
set_option maxHeartbeats 4000000
namespace Go.Proofs.Ytdhkdnmefeeclaa
open Go Go.Am Go.Proofs Go.RowKit Go.Shelf Go.Off

theorem fItm_val (it : Itm) (j : Nat) {c : CV} (h : (fItm it)[j]? = some c) : ∃ n : Int, c = .val (.int .i64 n) ∧ ((j = 0 ∧ n = it.width) ∨ (j = 1 ∧ n = it.need)) := by
  match j, h with
  | 0, h => cases h; exact ⟨_, rfl, .inl ⟨rfl, rfl⟩⟩
  | 1, h => cases h; exact ⟨_, rfl, .inr ⟨rfl, rfl⟩⟩

/-- What a slice of items is. -/
theorem it_view {w : World} {bad : Nat → Prop} {a : Option (List Itm)} {s : Value} (h : CR w bad (encSl 2 fItm a) s) : ∃ (p : Option Addr) (cap : Nat), s = .slice p (osl a).length cap ∧ (osl a).length ≤ cap ∧
    ((osl a).length ≠ 0 → ∃ g off, p = some ⟨g, off, none⟩ ∧ ¬ bad g ∧ g < w.heap.size ∧ ∀ i (hi : i < (osl a).length), w.cell? ⟨g, off + i * 2, none⟩ = some (.int .i64 (osl a)[i].width) ∧ w.cell? ⟨g, off + i * 2 + 1, none⟩ = some (.int .i64 (osl a)[i].need)) := by
  cases a with
  | none => cases h with
    | val _ _ => exact ⟨none, 0, rfl, Nat.le_refl _, fun h0 => absurd rfl h0⟩
  | some l =>
    change CR w bad (.sl 2 (l.map fItm)) s at h
    generalize hlm : l.map fItm = lm at h
    cases h with
    | emp _ ad =>
      obtain rfl : l = [] := by simpa using hlm
      exact ⟨some ad, 0, rfl, Nat.le_refl _, fun h0 => absurd rfl h0⟩
    | sl _ _ g off cap f hcap hbad hlt hrow hc hv =>
      subst hlm
      rw [List.length_map] at hcap hc
      have hf : ∀ i (hi : i < l.length) j (hj : j < 2), ∃ n : Int, f i j = .int .i64 n ∧ ((j = 0 ∧ n = l[i].width) ∨ (j = 1 ∧ n = l[i].need)) := fun i hi j hj => by
        have hr : (l.map fItm)[i]? = some (fItm l[i]) := by rw [List.getElem?_map, List.getElem?_eq_getElem hi]; rfl
        have hlt2 : j < (fItm l[i]).length := hj
        have hcj : (fItm l[i])[j]? = some (fItm l[i])[j] := List.getElem?_eq_getElem hlt2
        have hcr := hv i j _ _ hr hcj
        obtain ⟨n, hn, hx⟩ := fItm_val _ _ hcj
        rw [hn] at hcr
        refine ⟨n, ?_, hx⟩
        generalize f i j = u at hcr
        cases hcr
        rfl
      refine ⟨some ⟨g, off, none⟩, cap, by rw [List.length_map]; rfl, hcap, fun _ => ⟨g, off, rfl, hbad, hlt, fun i hi => ?_⟩⟩
      obtain ⟨n0, e0, h0⟩ := hf i hi 0 (by omega)
      obtain ⟨n1, e1, h1⟩ := hf i hi 1 (by omega)
      have c0 := hc i 0 hi (by omega)
      have c1 := hc i 1 hi (by omega)
      rw [e0] at c0
      rw [e1] at c1
      obtain rfl : n0 = l[i].width := by omega
      obtain rfl : n1 = l[i].need := by omega
      exact ⟨c0, c1⟩

/-- How many of each are gone through: none, if the stock may not be. -/
def needG (s : ST) (i : Nat) : Int := if 0 ≤ (itAt s i).need ∧ (itAt s i).need ≤ 1024 then (itAt s i).need else 0
def eachS (s : ST) : List (Nat × Nat) := if rightS s then eachTo (needG s) (osl s.items).length else []
abbrev eachAV (s : ST) (x : Nat × Nat) : List AV := [aI (x.1 : Int), aI (itAt s x.2).width]

theorem each_iter (s : ST) :
    IterT Ti Try.prog 187 [.iptr [.val (.int .i64 s.roll), encSl 2 fItm s.items]] (eachAV s) 2 (fun xs => xs = eachS s) (fun _ => True) (eachS s).length := by
  refine ⟨fun a w => Try.call187 a w, fun k => rfl, fun w bad vs hbad hvs => ?_⟩
  obtain ⟨v0, q0, rfl, hv0, hvs⟩ := PW.inv hvs
  obtain rfl : q0 = [] := List.eq_nil_of_length_eq_zero hvs.1.symm
  cases hv0 with
  | iptr _ As oa fa hAn hAl hca hva =>
  have cell0 := hca 0 _ rfl
  have cr0 := hva 0 _ rfl
  have cell1 := hca 1 _ rfl
  have cr1 := hva 1 _ rfl
  have hsh := hca
  clear hca hva
  generalize fa 0 = s0 at cell0 cr0
  generalize fa 1 = s1 at cell1 cr1
  cases cr0
  obtain ⟨pa, capa, rfl, hcapa, hA⟩ := it_view cr1
  refine ⟨fun x => [.int .i64 (x.1 : Int), .int .i64 (itAt s x.2).width], fun k => .cons (.one _ _ (.c _ _ (.val _ rfl))) (.cons (.one _ _ (.c _ _ (.val _ rfl))) .nil), fun n => ?_⟩
  intro ll J Jx W hW hJ hJx hY h0
  have hAW0 : W.cell? ⟨As, oa, none⟩ = _ := (hW.cell (p := ⟨As, oa, none⟩) hAl).trans cell0
  have hAW1 : W.cell? ⟨As, oa + 1, none⟩ = _ := (hW.cell (p := ⟨As, oa + 1, none⟩) hAl).trans cell1
  have hJd : ∀ pre A B, J pre A → A.grownBy B none → J pre B := fun pre A B hj hgr => hJ pre A B none hj hgr (by simp)
  have hright : ∀ m, CallsIn (Wd none) m Try.prog 132 #[.agg #[.int .i64 s.roll, .slice pa (osl s.items).length capa]] W fun e W' => e = .returned (.bool (rightS s)) ∧ W.grownBy W' none := fun m => by
    have hc := (stright_C s).2 W bad [.agg #[.int .i64 s.roll, .slice pa (osl s.items).length capa]] (fun g hg => by have := hbad g hg; have := hW.size; omega) (.cons (.agg _ [.int .i64 s.roll, .slice pa (osl s.items).length capa] rfl (fun i c v hc hv => by
      match i, hc, hv with
      | 0, hc, hv => cases hc; cases hv; exact .c _ _ (.val _ rfl)
      | 1, hc, hv => cases hc; cases hv; exact .c _ _ (CR.tr (fun g _ hl => hW.block g hl) (fun g hn _ => hn) hW.size cr1))) .nil)
    refine (callsIn_wd (hc.mono ?_))
    rintro e W' ⟨v, rfl, hb, hr⟩
    refine ⟨?_, below_grown hb⟩
    congr 1
    exact (avr_val hr).symm
  have e1 : 1 ≤ n + 1 := by omega
  by_cases hr : rightS s = true
  case neg =>
    have hr' : rightS s = false := by simpa using hr
    have hes : eachS s = [] := by unfold eachS; rw [if_neg hr]
    have hR := hright n
    rw [hr'] at hR
    refine callsIn_n ((each1_no_in (Wd none) trivial trivial rfl (n + 1) e1 ll As oa pa _ capa s.roll J W hJd hR hAW0 hAW1 h0).mono ?_) n
    rintro e W' ⟨he, hj⟩
    exact ⟨he, .inl ⟨[], hes.symm, hj⟩⟩
  have rt := rtS_of hr
  have hes : eachS s = eachTo (needG s) (osl s.items).length := by unfold eachS; rw [if_pos hr]
  have hR := hright n
  rw [hr] at hR
  by_cases hz : (osl s.items).length = 0
  · rw [hz] at hes hR hAW1
    refine callsIn_n ((each1_nil_in (Wd none) trivial trivial rfl (n + 1) e1 ll As oa pa capa s.roll J W hJd (by have := hW.size; omega) hR hAW0 hAW1 h0).mono ?_) n
    rintro e W' ⟨he, hj⟩
    exact ⟨he, .inl ⟨[], hes.symm, hj⟩⟩
  · obtain ⟨ga, offa, rfl, hgan, hgal, hcA⟩ := hA hz
    have hng : ∀ i (hi : i < (osl s.items).length), needG s i = (osl s.items)[i].need := fun i hi => by
      have := (rt.item i hi).2
      unfold needG
      rw [if_pos this, itAt_in hi]
    have hc0 : ∀ i, i < (osl s.items).length → W.cell? ⟨ga, offa + i * 2, none⟩ = some (.int .i64 (itAt s i).width) := fun i hi => by
      rw [itAt_in hi]
      exact (hW.cell (p := ⟨ga, offa + i * 2, none⟩) hgal).trans (hcA i hi).1
    have hc1 : ∀ i, i < (osl s.items).length → W.cell? ⟨ga, offa + i * 2 + 1, none⟩ = some (.int .i64 (needG s i)) := fun i hi => by
      rw [hng i hi]
      exact (hW.cell (p := ⟨ga, offa + i * 2 + 1, none⟩) hgal).trans (hcA i hi).2
    refine callsIn_n ((each1_in (Wd none) trivial trivial rfl (n + 1) e1 ll As oa ga offa (osl s.items).length capa s.roll w bad (fun i => (itAt s i).width) (needG s) rt.len hAl hAn hgal hgan J Jx W (fun pre x W1 hj hl => ?_) hJd hW.size hcapa
      (fun i => by unfold needG; split <;> omega) hR hAW0 hAW1 hc0 hc1 h0).mono ?_) n
    · rw [← hes] at hl
      exact yieldAt_alt (hY pre x W1 hj hl) _
    · rintro e W' ⟨he, hj⟩
      rw [← hes] at hj
      exact ⟨he, hj⟩

abbrev c174 : CC := (.seq (.reg [⟨(some 1), none, (.box 110 (.tmp 0))⟩, ⟨(some 2), none, (.mv (.const .nilFunc))⟩]) (.seq (.reg [⟨(some 3), none, (.mkfn 187 [(.tmp 1)])⟩, ⟨(some 2), none, (.mv (.tmp 3))⟩]) .ret))
theorem cc174 : ccode Try.prog [] (Try.f174.body.getD .skip) = some c174 := by kernel_rfl
theorem body174 : Try.f174.body = some (Try.f174.body.getD .skip) := rfl

theorem each_C (s : ST) : PureC Try.prog 174 [aSt s] (.ret (.one (.fn 187 [.iptr [.val (.int .i64 s.roll), encSl 2 fItm s.items]]))) := by
  refine pureC_of (rs := [(RV.tmp 2)]) Try.func174 (fun a w => Try.call174 a w) body174 cc174 (by kernel_rfl) ?_
  rw [Try.ntmps174]
  simp only [frs, Nat.reduceAdd, Nat.reduceSub]
  repeat (first | (with_reducible first | refine Way.imp ?_ | refine blk_o rfl ?_) | ((with_reducible refine WayR.imp (fun K hK => ?_)); simp (disch := first | omega | (simp only [dls]; omega)) only [std, reduceIte, reduceCtorEq, Int.reduceToNat, Nat.reduceAdd, Nat.reduceSub, Nat.reduceMul, Int.reduceAdd, Int.reduceSub, Int.reduceMul, Int.reduceNeg, fU]; subst hK))
  exact ⟨_, rfl, rfl⟩

def totalS (s : ST) : Nat := (eachS s).length
theorem foldl_count {α : Type} (l : List α) (n : Nat) : l.foldl (fun b _ => b + 1) n = n + l.length := by
  induction l generalizing n with
  | nil => rfl
  | cons x l ih => rw [List.foldl_cons, ih, List.length_cons]; omega

abbrev c133_k1 : CC := (.seq (.reg [⟨(some 10), none, (.load 1 false (.tmp 3))⟩, ⟨(some 2), none, (.mv (.tmp 10))⟩]) .ret)
abbrev c133_b1 : CC := (.block 1 (.reg [⟨(some 8), none, (.load 1 false (.tmp 3))⟩, ⟨(some 9), none, (.bin .add (.tmp 8) (.const (.int .i64 (1))))⟩, ⟨none, none, (.store 1 (.tmp 3) (.tmp 9))⟩]))
abbrev c133 : CC := (.seq (.reg [⟨(some 1), none, (.box 110 (.tmp 0))⟩, ⟨(some 2), none, (.mv (.const (.int .i64 (0))))⟩]) (.seq (.reg [⟨(some 3), none, (.new 3 [(.int .i64 (0))])⟩, ⟨none, none, (.store 1 (.tmp 3) (.const (.int .i64 (0))))⟩]) (.seq (.seq (.reg [⟨(some 4), none, (.load 2 true (.tmp 1))⟩, ⟨(some 5), none, (.callf (.func 174) [(.tmp 4)])⟩]) (.block 0 (.rf (.tmp 5) [6, 7] [] c133_b1))) c133_k1)))
theorem cc133 : ccode Try.prog [] (Try.f133.body.getD .skip) = some c133 := by kernel_rfl
theorem body133 : Try.f133.body = some (Try.f133.body.getD .skip) := rfl

theorem total_C (s : ST) : PureC Try.prog 133 [aSt s] (.ret (aI (totalS s : Nat))) := by
  have hb := each_C s
  have hlen : (eachS s).length ≤ 61440 := by
    unfold eachS
    split
    · rename_i hr
      have := eachTo_len (needG s) (fun i => by unfold needG; split <;> omega) (osl s.items).length
      have := (rtS_of hr).len
      omega
    · exact Nat.zero_le _
  unfold totalS
  refine pureC_of (rs := [(RV.tmp 2)]) Try.func133 (fun a w => Try.call133 a w) body133 cc133 (by kernel_rfl) ?_
  rw [Try.ntmps133]
  simp only [frs, Nat.reduceAdd, Nat.reduceSub]
  repeat (first | (with_reducible first | refine Way.imp ?_ | refine blk_o rfl ?_) | ((with_reducible refine WayR.imp (fun K hK => ?_)); simp (disch := first | omega | (simp only [dls]; omega)) only [std, reduceIte, reduceCtorEq, Int.reduceToNat, Nat.reduceAdd, Nat.reduceSub, Nat.reduceMul, Int.reduceAdd, Int.reduceSub, Int.reduceMul, Int.reduceNeg, fU]; subst hK) | refine zcA (hb) rfl rfl rfl ?_)
  refine awp_foldT (each_iter s) rfl (by simp [closedCell]) (fun (n : Nat) => [⟨0, 110, 2, [[.c (.val (.int .i64 s.roll)), .c (encSl 2 fItm s.items)]], true, true⟩, ⟨0, 3, 1, [[.c (.val (.int .i64 (n : Int)))]], true, true⟩]) (fun n _ => n + 1) (fun i n => n = i) 0 rfl rfl (fun n => ⟨rfl, fun k hk => by
    simp only [List.mem_cons, List.not_mem_nil, or_false] at hk
    rcases hk with rfl | rfl <;> simp [Ti]⟩) ?_ ?_
  · intro i b x hi hb
    simp only [mvT, setps, rnd, Nat.reduceAdd]
    repeat (first | (with_reducible first | refine Way.imp ?_ | refine blk_o rfl ?_) | ((with_reducible refine WayR.imp (fun K hK => ?_)); simp (disch := first | omega | (simp only [dls]; omega)) only [std, reduceIte, reduceCtorEq, Int.reduceToNat, Nat.reduceAdd, Nat.reduceSub, Nat.reduceMul, Int.reduceAdd, Int.reduceSub, Int.reduceMul, Int.reduceNeg, fU]; subst hK))
    refine ⟨_, ⟨rfl, ?hI1⟩, _, Fgt.head (Nat.le_refl _) [] rfl ?hH1⟩
    case hH1 => first | (simp (disch := omega) only [hds, liveT, cleanAV, cleanCell, clean1, cleanBlk, reduceIte, Int.reduceSub, Int.reduceAdd, Int.reduceNeg]; done) | rfl
    exact congrArg (· + 1) hb
  · intro _
    rw [foldl_count, Nat.zero_add]
    repeat (first | (with_reducible first | refine Way.imp ?_ | refine blk_o rfl ?_) | ((with_reducible refine WayR.imp (fun K hK => ?_)); simp (disch := first | omega | (simp only [dls]; omega)) only [std, reduceIte, reduceCtorEq, Int.reduceToNat, Nat.reduceAdd, Nat.reduceSub, Nat.reduceMul, Int.reduceAdd, Int.reduceSub, Int.reduceMul, Int.reduceNeg, fU]; subst hK))
    exact ⟨_, rfl, rfl⟩

end Go.Proofs.Ytdhkdnmefeeclaa
set_option linter.unusedSimpArgs false
set_option linter.unusedVariables false
set_option maxRecDepth 100000
set_option maxHeartbeats 4000000
namespace Go.Proofs.Ytdhkdnmefeeclaa
open Go Go.Am Go.Proofs Go.RowKit Go.Shelf Go.Off

attribute [local go_sem] Oper.semAt_some

/-- All pieces that are gone through: their items. -/
def pcTo (g sg : Nat → Int) : Nat → List Nat
  | 0 => []
  | k + 1 => pcTo g sg k ++ List.replicate (if 0 < sg k then (g k).toNat else 0) k
def pcIn (g sg : Nat → Int) (k j : Nat) : List Nat := pcTo g sg k ++ List.replicate (if 0 < sg k then j else 0) k
theorem pcTo_succ_len (g sg : Nat → Int) (k : Nat) : (pcTo g sg (k + 1)).length = (pcTo g sg k).length + (if 0 < sg k then (g k).toNat else 0) := by
  show (pcTo g sg k ++ _).length = _
  rw [List.length_append, List.length_replicate]
theorem pcTo_mono (g sg : Nat → Int) {k n : Nat} (h : k ≤ n) : (pcTo g sg k).length ≤ (pcTo g sg n).length := by
  induction n with
  | zero => obtain rfl : k = 0 := by omega
            exact Nat.le_refl _
  | succ n ih =>
    by_cases e : k = n + 1
    · rw [e]; exact Nat.le_refl _
    · have := ih (by omega)
      rw [pcTo_succ_len]; omega
theorem pcIn_len (g sg : Nat → Int) (k j : Nat) : (pcIn g sg k j).length = (pcTo g sg k).length + (if 0 < sg k then j else 0) := by unfold pcIn; rw [List.length_append, List.length_replicate]

theorem below_kp {w A B : World} {bad : Nat → Prop} (h : A.grownBy B none) : KpOf w bad A B := ⟨h.size, fun g hg hb cs t o hc => (h.block g (Array.getElem?_eq_some_iff.1 hc).1 (by simp)).trans hc⟩
theorem kpOf_trans {w A B C : World} {bad : Nat → Prop} (h : KpOf w bad A B) (k : KpOf w bad B C) : KpOf w bad A C := ⟨Nat.le_trans h.1 k.1, fun g hg hb cs t o hc => k.2 g hg hb cs t o (h.2 g hg hb cs t o hc)⟩

set_option maxRecDepth 100000 in
set_option maxHeartbeats 4000000 in
theorem pieces1_in (F : Fence) (hF : F.fn 175) (hF2 : F.fn 33) (hro : F.round = none) (n : Nat) (hn : 1 ≤ n) (l As oa Bs ob : Nat) (ba off len cap bb offb capb : Nat) (w : World) (bad : Nat → Prop) (f g sg : Nat → Int) (q : Nat → Nat → Value)
    (hlen : len ≤ 60) (hAl : As < w.heap.size) (hAn : ¬ bad As) (hal : ba < w.heap.size) (han : ¬ bad ba) (hBl : Bs < w.heap.size) (hBn : ¬ bad Bs) (hbl : bb < w.heap.size) (hbn : ¬ bad bb) (J Jx : List Nat → World → Prop) (W : World)
    (hY : ∀ pre (x : Nat) W, x < len → J pre W → pre.length < (pcTo g sg len).length → YieldAt F (n - 1) Try.prog l #[.int .i64 (x : Int)] W fun e W' =>
      ∃ b, e = .returned (.bool b) ∧ (b = true → J (pre ++ [x]) W' ∧ KpOf w bad W W') ∧ (b = false → Jx (pre ++ [x]) W'))
    (hJd : ∀ pre W W', J pre W → W.grownBy W' none → J pre W') (hwW : w.heap.size ≤ W.heap.size) (hcap : len ≤ cap) (hcapb : len ≤ capb) (hg : ∀ i, 0 ≤ g i ∧ g i ≤ 1024)
    (hS : ∀ k wr, k < len → KpOf w bad W wr → CallsIn F (n - 1) Try.prog 33 #[.agg #[q k 0, q k 1, q k 2]] wr fun e W' => e = .returned (.int .i64 (sg k)) ∧ wr.grownBy W' none)
    (hAs : W.cell? ⟨As, oa + 1, none⟩ = some (.slice (some ⟨ba, off, none⟩) len cap)) (hBs : W.cell? ⟨Bs, ob, none⟩ = some (.slice (some ⟨bb, offb, none⟩) len capb))
    (hc0 : ∀ i, i < len → W.cell? ⟨ba, off + i * 2, none⟩ = some (.int .i64 (f i))) (hc1 : ∀ i, i < len → W.cell? ⟨ba, off + i * 2 + 1, none⟩ = some (.int .i64 (g i)))
    (hb0 : ∀ i, i < len → W.cell? ⟨bb, offb + i * 3, none⟩ = some (q i 0)) (hb1 : ∀ i, i < len → W.cell? ⟨bb, offb + i * 3 + 1, none⟩ = some (q i 1)) (hb2 : ∀ i, i < len → W.cell? ⟨bb, offb + i * 3 + 2, none⟩ = some (q i 2)) (h0 : J [] W) :
    CallsIn F n Try.prog 175 #[.func (.yield l) #[] #[], .pointer (some ⟨As, oa, none⟩), .pointer (some ⟨Bs, ob, none⟩)] W fun e W' => (∃ v, e = .returned v) ∧
      ((∃ ys, ys = pcTo g sg len ∧ J ys W') ∨ (∃ pre, True ∧ Jx pre W')) := by
  refine callsIn_of_wp Try.func175 rfl hF ?_ hro
  simp only [Try.ntmps175, List.size_toArray, List.length_cons, List.length_nil, Nat.reduceAdd, Nat.reduceSub, Array.replicate_succ, Array.replicate_zero, List.push_toArray, List.append_toArray, List.nil_append, List.cons_append]
  gi_wp2
  gi_loopw [9] (fun v9 wr => ∃ k : Nat, k ≤ len ∧ v9 = .int .i64 (k : Int) ∧ J (pcTo g sg k) wr ∧ KpOf w bad W wr)
      (fun i _ => ((len : Int) - intOf i).toNat)
  case atStart => exact ⟨0, by omega, rfl, h0, ⟨Nat.le_refl _, fun _ _ _ _ _ _ h => h⟩⟩
  case round =>
    obtain ⟨k, hk, rfl, hJs, hnx⟩ := hrel
    by_cases hkm : k = len
    · subst hkm
      gi_wp2
      go_end0
      exact ⟨⟨_, rfl⟩, .inl ⟨_, rfl, hJs⟩⟩
    · have hlt : k < len := by omega
      have hf2 : wr.cell? ⟨ba, off + k * 2, none⟩ = some (.int .i64 (f k)) := kp_cell hnx hal han (hc0 k hlt)
      have hg2 : wr.cell? ⟨ba, off + k * 2 + 1, none⟩ = some (.int .i64 (g k)) := kp_cell hnx hal han (hc1 k hlt)
      gi_wp2
      have hg5 : wr.grownBy (wr.alloc (Obj.cells #[Value.int IntKind.i64 (f k), Value.int IntKind.i64 (g k)] 121)) none := below_grown ((Below.refl _ wr).alloc (Nat.le_refl _) _)
      generalize wr.alloc (Obj.cells #[Value.int IntKind.i64 (f k), Value.int IntKind.i64 (g k)] 121) = w5 at hg5 ⊢
      have hJ5 := hJd _ _ _ hJs hg5
      have hk5 : KpOf w bad W w5 := kpOf_trans hnx (below_kp hg5)
      have hgk := hg k
      have hsub : (pcTo g sg (k + 1)).length ≤ (pcTo g sg len).length := pcTo_mono g sg (by omega)
      have hls := pcTo_succ_len g sg k
      gi_loopw [16] (fun v16 w2 => ∃ j : Nat, (j : Int) ≤ g k ∧ v16 = .int .i64 (j : Int) ∧ J (pcIn g sg k j) w2 ∧ KpOf w bad W w2)
          (fun i _ => (g k - intOf i).toNat)
      case atStart => exact ⟨0, by omega, rfl, by simpa [pcIn] using hJ5, hk5⟩
      case round =>
        obtain ⟨j, hj, rfl, hJ2, hk2⟩ := hrel
        by_cases hjm : (j : Int) = g k
        · gi_wp2
          go_roundw
          case rel =>
            refine ⟨k + 1, hlt, rfl, ?_, hk2⟩
            have : pcIn g sg k j = pcTo g sg (k + 1) := by
              show pcTo g sg k ++ _ = pcTo g sg k ++ _
              rw [show (g k).toNat = j by omega]
            rw [← this]; exact hJ2
          case measure => simp [intOf]; omega
        · have hjl : (j : Int) < g k := by omega
          have hBs2 : wr.cell? ⟨Bs, ob, none⟩ = some (.slice (some ⟨bb, offb, none⟩) len capb) := kp_cell hk2 hBl hBn hBs
          have hq0 : wr.cell? ⟨bb, offb + k * 3, none⟩ = some (q k 0) := kp_cell hk2 hbl hbn (hb0 k hlt)
          have hq1 : wr.cell? ⟨bb, offb + k * 3 + 1, none⟩ = some (q k 1) := kp_cell hk2 hbl hbn (hb1 k hlt)
          have hq2 : wr.cell? ⟨bb, offb + k * 3 + 2, none⟩ = some (q k 2) := kp_cell hk2 hbl hbn (hb2 k hlt)
          gi_wp2
          refine (hS k _ hlt hk2).mono ?_
          rintro e W1 ⟨rfl, hg1⟩
          have hJ3 := hJd _ _ _ hJ2 hg1
          have hk3 : KpOf w bad W W1 := kpOf_trans hk2 (below_kp hg1)
          by_cases hsg : 0 < sg k
          · rw [if_pos hsg] at hls
            obtain ⟨fn, tmps, assign, body, hy, hR⟩ := hY _ k W1 hlt hJ3 (by rw [pcIn_len, if_pos hsg]; omega)
            gi_wp2
            refine hR.mono ?_
            rintro e W3 ⟨b, rfl, hbt, hbf⟩
            cases b
            · gi_wp2
              refine bodyPost_ret (results_none rfl _ _ _) rfl ?_
              exact ⟨⟨_, rfl⟩, .inr ⟨_, trivial, hbf (by simp)⟩⟩
            · obtain ⟨hJ4, hk4⟩ := hbt rfl
              gi_wp2
              go_roundw
              case rel =>
                refine ⟨j + 1, by omega, by simp, ?_, kpOf_trans hk3 hk4⟩
                have : pcIn g sg k (j + 1) = pcIn g sg k j ++ [k] := by
                  unfold pcIn; rw [if_pos hsg, if_pos hsg, List.replicate_succ', List.append_assoc]
                rw [this]; exact hJ4
              case measure => simp [intOf]; omega
          · gi_wp2
            all_goals (
              refine ⟨fun _ h => (by cases h), ?_⟩
              gi_wp2
              go_roundw
              case rel =>
                refine ⟨j + 1, by omega, by simp, ?_, hk3⟩
                have : pcIn g sg k (j + 1) = pcIn g sg k j := by
                  unfold pcIn; rw [if_neg (show ¬ 0 < sg k by omega), if_neg (show ¬ 0 < sg k by omega)]
                rw [this]; exact hJ3
              case measure => simp [intOf]; omega)

set_option maxRecDepth 100000 in
set_option maxHeartbeats 4000000 in
theorem pieces1_nil_in (F : Fence) (hF : F.fn 175) (hro : F.round = none) (n : Nat) (hn : 1 ≤ n) (l As oa Bs ob : Nat) (pa : Option Addr) (cap : Nat) {α : Type} (J : List α → World → Prop) (W : World)
    (hAs : W.cell? ⟨As, oa + 1, none⟩ = some (.slice pa 0 cap)) (h0 : J [] W) :
    CallsIn F n Try.prog 175 #[.func (.yield l) #[] #[], .pointer (some ⟨As, oa, none⟩), .pointer (some ⟨Bs, ob, none⟩)] W fun e W' => (∃ v, e = .returned v) ∧ J [] W' := by
  refine callsIn_of_wp Try.func175 rfl hF ?_ hro
  simp only [Try.ntmps175, List.size_toArray, List.length_cons, List.length_nil, Nat.reduceAdd, Nat.reduceSub, Array.replicate_succ, Array.replicate_zero, List.push_toArray, List.append_toArray, List.nil_append, List.cons_append]
  gi_wp2
  gi_loopw [9] (fun v9 wr => v9 = .int .i64 0 ∧ J [] wr) (fun _ _ => 0)
  case atStart => exact ⟨rfl, h0⟩
  case round =>
    obtain ⟨rfl, hJs⟩ := hrel
    gi_wp2
    go_end0
    exact ⟨⟨_, rfl⟩, hJs⟩

theorem cr_kp {w w' : World} {bad : Nat → Prop} (k : KpOf w bad w w') {x : CV} {v : Value} (h : CR w bad x v) : CR w' bad x v := by
  induction h with
  | val v h => exact .val v h
  | str s => exact .str s
  | sl e l g off cap f hcap hbad hlt hrow hc hv ih =>
    exact .sl e l g off cap f hcap hbad (by have := k.1; omega) hrow (fun i j hi hj => kp_cell k hlt hbad (hc i j hi hj)) ih
  | emp e a => exact .emp e a

def sgW (ws : VV) (k : Nat) : Int := sgn (rAt ws k).top
def pcS (s : ST) (ws : VV) : List Nat := pcTo (fun i => (itAt s i).need) (sgW ws) (osl s.items).length
abbrev pcAV {n : Nat} (k : Fin n) : List AV := [aI (k.1 : Int)]
def finL (n : Nat) (l : List Nat) : List (Fin n) := l.filterMap (fun k => if h : k < n then some ⟨k, h⟩ else none)
theorem finL_map {n : Nat} (p : List (Fin n)) : finL n (p.map Fin.val) = p := by
  induction p with
  | nil => rfl
  | cons x p ih =>
    unfold finL at ih ⊢
    rw [List.map_cons, List.filterMap_cons]
    rw [dif_pos x.2, ih]
theorem finL_val {n : Nat} {l : List Nat} (h : ∀ k ∈ l, k < n) : (finL n l).map Fin.val = l := by
  induction l with
  | nil => rfl
  | cons x l ih =>
    have hx := h x (by simp)
    have := ih (fun k hk => h k (by simp [hk]))
    unfold finL at this ⊢
    rw [List.filterMap_cons, dif_pos hx]
    rw [List.map_cons, this]
theorem pcTo_lt (g sg : Nat → Int) (n : Nat) : ∀ k ∈ pcTo g sg n, k < n := by
  induction n with
  | zero => intro k hk; cases hk
  | succ n ih =>
    intro k hk
    rcases List.mem_append.1 hk with h | h
    · have := ih k h; omega
    · have := (List.mem_replicate.1 h).2; omega

theorem pieces_iter (s : ST) (ws : VV) (hr : rightS s = true) (hl : (osl ws).length = (osl s.items).length) (hw : ∀ k, Fits (rAt ws k) 1000000000) :
    IterC Try.prog 175 [.iptr [.val (.int .i64 s.roll), encSl 2 fItm s.items], .iptr [vr ws]] (pcAV (n := (osl s.items).length)) 1 (fun xs => xs = finL _ (pcS s ws)) (fun _ => True) (finL (osl s.items).length (pcS s ws)).length := by
  have rt := rtS_of hr
  refine ⟨fun a w => Try.call175 a w, fun k => rfl, fun w bad vs hbad hvs => ?_⟩
  obtain ⟨v0, q0, rfl, hv0, hvs⟩ := PW.inv hvs
  obtain ⟨v1, q1, rfl, hv1, hvs⟩ := PW.inv hvs
  obtain rfl : q1 = [] := List.eq_nil_of_length_eq_zero hvs.1.symm
  cases hv0 with
  | iptr _ As oa fa hAn hAl hca hva =>
  cases hv1 with
  | iptr _ Bs ob fb hBn hBl hcb hvb =>
  have cell1 := hca 1 _ rfl
  have cr1 := hva 1 _ rfl
  have cellB := hcb 0 (vr ws) rfl
  have crB := hvb 0 (vr ws) rfl
  clear hca hva hcb hvb
  generalize fa 1 = s1 at cell1 cr1
  generalize fb 0 = sb at cellB crB
  obtain ⟨pa, capa, rfl, hcapa, hA⟩ := it_view cr1
  obtain ⟨pb, capb, q, rfl, hcapb, h2, hq, hB⟩ := vr_view crB
  refine ⟨fun x => [.int .i64 (x.1 : Int)], fun k => .cons (.one _ _ (.c _ _ (.val _ rfl))) .nil, fun n => ?_⟩
  intro ll J Jx W hW hJ hJx hY h0
  have hAW1 : W.cell? ⟨As, oa + 1, none⟩ = _ := (hW.cell (p := ⟨As, oa + 1, none⟩) hAl).trans cell1
  have hBW : W.cell? ⟨Bs, ob, none⟩ = _ := (hW.cell (p := ⟨Bs, ob, none⟩) hBl).trans cellB
  have hJd : ∀ pre A B, J pre A → A.grownBy B none → J pre B := fun pre A B hj hgr => hJ pre A B none hj hgr (by simp)
  have e1 : 1 ≤ n + 1 := by omega
  by_cases hz : (osl s.items).length = 0
  · rw [hz] at hAW1
    refine callsIn_n ((pieces1_nil_in (Wd none) trivial rfl (n + 1) e1 ll As oa Bs ob pa capa J W hAW1 h0).mono ?_) n
    rintro e W' ⟨he, hj⟩
    refine ⟨he, .inl ⟨[], ?_, hj⟩⟩
    show [] = finL _ (pcS s ws)
    unfold pcS; rw [hz]; rfl
  · obtain ⟨ga, offa, rfl, hgan, hgal, hcA⟩ := hA hz
    obtain ⟨gb, offb, rfl, hgbn, hgbl, hcB⟩ := hB (by omega)
    rw [hl] at hcapb hBW hcB
    have hS : ∀ k wr, k < (osl s.items).length → KpOf w bad W wr → CallsIn (Wd none) n Try.prog 33 #[.agg #[q k 0, q k 1, q k 2]] wr fun e W' => e = .returned (.int .i64 (sgW ws k)) ∧ wr.grownBy W' none := fun k wr hk hkp => by
      have hbk : KpOf w bad w wr := ⟨Nat.le_trans hW.size hkp.1, fun g hg hb cs t o hc => hkp.2 g hg hb cs t o ((hW.block g hg).trans hc)⟩
      have hcr : ∀ j c, (fR (rAt ws k))[j]? = some c → CR wr bad c (q k j) := fun j c hc => cr_kp hbk (hq k j c hc)
      have hc := (rsign_C (rAt ws k) (hw k)).2 wr bad [.agg #[q k 0, q k 1, q k 2]] (fun g hg => by have := hbad g hg; have := hW.size; have := hkp.1; omega) (.cons (.agg _ [q k 0, q k 1, q k 2] rfl (fun i c v hc hv => by
        match i, hc, hv with
        | 0, hc, hv => cases hc; cases hv; exact .c _ _ (hcr 0 _ rfl)
        | 1, hc, hv => cases hc; cases hv; exact .c _ _ (hcr 1 _ rfl)
        | 2, hc, hv => cases hc; cases hv; exact .c _ _ (hcr 2 _ rfl))) .nil)
      refine (callsIn_wd (hc.mono ?_))
      rintro e W' ⟨v, rfl, hb, hr⟩
      refine ⟨?_, below_grown hb⟩
      congr 1
      exact (avr_val hr).symm
    have hc0 : ∀ i, i < (osl s.items).length → W.cell? ⟨ga, offa + i * 2, none⟩ = some (.int .i64 (itAt s i).width) := fun i hi => by
      rw [itAt_in hi]
      exact (hW.cell (p := ⟨ga, offa + i * 2, none⟩) hgal).trans (hcA i hi).1
    have hc1 : ∀ i, i < (osl s.items).length → W.cell? ⟨ga, offa + i * 2 + 1, none⟩ = some (.int .i64 (needG s i)) := fun i hi => by
      have := (rt.item i hi).2
      unfold needG
      rw [if_pos this, itAt_in hi]
      exact (hW.cell (p := ⟨ga, offa + i * 2 + 1, none⟩) hgal).trans (hcA i hi).2
    have hb : ∀ i j, i < (osl s.items).length → j < 3 → W.cell? ⟨gb, offb + i * 3 + j, none⟩ = some (q i j) := fun i j hi hj => by
      rw [Nat.add_assoc]
      exact (hW.cell (p := ⟨gb, offb + (i * 3 + j), none⟩) hgbl).trans (hcB i j hi hj)
    have hps : pcS s ws = pcTo (needG s) (sgW ws) (osl s.items).length := by
      unfold pcS
      have : ∀ k, k ≤ (osl s.items).length → pcTo (fun i => (itAt s i).need) (sgW ws) k = pcTo (needG s) (sgW ws) k := fun k => by
        induction k with
        | zero => intro _; rfl
        | succ k ih =>
          intro hk
          show pcTo _ _ k ++ _ = pcTo _ _ k ++ _
          have := (rt.item k (by omega)).2
          rw [ih (by omega), show needG s k = (itAt s k).need from by unfold needG; rw [if_pos this]]
      exact this _ (Nat.le_refl _)
    have hlL : (finL (osl s.items).length (pcS s ws)).length = (pcTo (needG s) (sgW ws) (osl s.items).length).length := by
      rw [← hps, ← List.length_map (f := Fin.val), finL_val]
      exact pcTo_lt _ _ _
    refine callsIn_n ((pieces1_in (Wd none) trivial trivial rfl (n + 1) e1 ll As oa Bs ob ga offa (osl s.items).length capa gb offb capb w bad (fun i => (itAt s i).width) (needG s) (sgW ws) q rt.len hAl hAn hgal hgan hBl hBn hgbl hgbn (fun pre W => ∃ p : List (Fin (osl s.items).length), p.map Fin.val = pre ∧ J p W) (fun pre W => ∃ p : List (Fin (osl s.items).length), Jx p W) W (fun pre x W1 hx hj hl => ?_)
      (fun pre A B hj hgr => by obtain ⟨p, hp, hj⟩ := hj; exact ⟨p, hp, hJd _ _ _ hj hgr⟩) hW.size hcapa hcapb
      (fun i => by unfold needG; split <;> omega) hS hAW1 hBW hc0 hc1 (fun i hi => hb i 0 hi (by omega)) (fun i hi => hb i 1 hi (by omega)) (fun i hi => hb i 2 hi (by omega)) ⟨[], rfl, h0⟩).mono ?_) n
    · obtain ⟨p, hp, hj⟩ := hj
      have hpl : p.length = pre.length := by rw [← hp, List.length_map]
      refine (yieldAt_alt (hY p ⟨x, hx⟩ W1 hj (by rw [hlL, hpl]; exact hl)) _).mono ?_
      rintro e W' ⟨b, he, h1, h2⟩
      exact ⟨b, he, fun hb => ⟨⟨p ++ [⟨x, hx⟩], by rw [List.map_append, hp]; rfl, (h1 hb).1⟩, (h1 hb).2⟩, fun hb => ⟨_, h2 hb⟩⟩
    · rintro e W' ⟨he, hj⟩
      refine ⟨he, ?_⟩
      rcases hj with ⟨ys, hys, p, hp, hj⟩ | ⟨pre, _, p, hj⟩
      · refine .inl ⟨p, ?_, hj⟩
        show p = finL _ (pcS s ws)
        rw [hps, ← hys, ← hp, finL_map]
      · exact .inr ⟨p, trivial, hj⟩

abbrev c135 : CC := (.seq (.reg [⟨(some 2), none, (.box 110 (.tmp 0))⟩, ⟨(some 3), none, (.box 22 (.tmp 1))⟩, ⟨(some 4), none, (.mv (.const .nilFunc))⟩]) (.seq (.reg [⟨(some 5), none, (.mkfn 175 [(.tmp 2), (.tmp 3)])⟩, ⟨(some 4), none, (.mv (.tmp 5))⟩]) .ret))
theorem cc135 : ccode Try.prog [] (Try.f135.body.getD .skip) = some c135 := by kernel_rfl
theorem body135 : Try.f135.body = some (Try.f135.body.getD .skip) := rfl

theorem pieces_C (s : ST) (ws : VV) : PureC Try.prog 135 [aSt s, aV ws] (.ret (.one (.fn 175 [.iptr [.val (.int .i64 s.roll), encSl 2 fItm s.items], .iptr [vr ws]]))) := by
  refine pureC_of (rs := [(RV.tmp 4)]) Try.func135 (fun a w => Try.call135 a w) body135 cc135 (by kernel_rfl) ?_
  rw [Try.ntmps135]
  simp only [frs, Nat.reduceAdd, Nat.reduceSub]
  repeat (first | (with_reducible first | refine Way.imp ?_ | refine blk_o rfl ?_) | ((with_reducible refine WayR.imp (fun K hK => ?_)); simp (disch := first | omega | (simp only [dls]; omega)) only [std, reduceIte, reduceCtorEq, Int.reduceToNat, Nat.reduceAdd, Nat.reduceSub, Nat.reduceMul, Int.reduceAdd, Int.reduceSub, Int.reduceMul, Int.reduceNeg, fU]; subst hK))
  exact ⟨_, rfl, rfl⟩
abbrev c134 : CC := (.seq (.reg [⟨(some 0), none, (.new 40 [(.bool false), (.slice none 0 0), (.slice none 0 0)])⟩]) (.seq (.reg [⟨(some 1), none, (.callf (.func 59) [(.const (.int .i64 (0)))])⟩, ⟨none, none, (.store 3 (.tmp 0) (.tmp 1))⟩]) .ret))
theorem cc134 : ccode Try.prog [] (Try.f134.body.getD .skip) = some c134 := by kernel_rfl
theorem body134 : Try.f134.body = some (Try.f134.body.getD .skip) := rfl

theorem best1_C : PureC Try.prog 134 [] (.ret (aR (rawQ 0))) := by
  have h0 := rint_C 0 (by omega) (by omega)
  change PureC _ _ _ (.ret (aR (rawQ 0))) at h0
  generalize rawQ 0 = z at *
  refine pureC_of (rs := [(RV.cell 0 3 true)]) Try.func134 (fun a w => Try.call134 a w) body134 cc134 (by kernel_rfl) ?_
  rw [Try.ntmps134]
  simp only [frs, Nat.reduceAdd, Nat.reduceSub]
  repeat (first | (with_reducible first | refine Way.imp ?_ | refine blk_o rfl ?_) | ((with_reducible refine WayR.imp (fun K hK => ?_)); simp (disch := first | omega | (simp only [dls]; omega)) only [std, reduceIte, reduceCtorEq, Int.reduceToNat, Nat.reduceAdd, Nat.reduceSub, Nat.reduceMul, Int.reduceAdd, Int.reduceSub, Int.reduceMul, Int.reduceNeg, fU, fR]; subst hK) | refine zcA (h0) rfl rfl rfl ?_)
  exact ⟨_, rfl, rfl⟩

end Go.Proofs.Ytdhkdnmefeeclaa
