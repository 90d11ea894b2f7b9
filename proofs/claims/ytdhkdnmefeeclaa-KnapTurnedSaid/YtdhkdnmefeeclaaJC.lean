/- Walks of knap: Best. -/
import Derived.Test.YtdhkdnmefeeclaaA5
import Derived.Test.YtdhkdnmefeeclaaBK
import Derived.Test.YtdhkdnmefeeclaaJA
import Derived.Test.YtdhkdnmefeeclaaJB
set_option linter.unusedSimpArgs false
set_option linter.unusedVariables false
set_option linter.unnecessarySimpa false
set_option linter.unusedSimpArgs false
set_option linter.unusedVariables false
set_option maxRecDepth 100000
set_option maxHeartbeats 4000000
namespace Go.Proofs.Ytdhkdnmefeeclaa
open Go Go.Am Go.Proofs Go.RowKit Go.Off

def fBo (b : Bool) : List CV := [.val (.bool b)]
def fBr (r : List Bool) : List CV := [encSl 1 fBo (some r)]
def fCh (v : RR) (t : Option (List Int)) : List CV := fR v ++ [encSl 1 fI t]
/-- What is told: a choice, and why there is none. -/
abbrev aCh (v : RR) (t : Option (List Int)) (e : Int) : AV := .tup [.agg ((fCh v t).map .c), aI e]
def wN (s : ST) (k : Nat) : Nat := (itAt s k).width.toNat
def bF (s : ST) (ws : VV) (ps : List Nat) : Nat → Rat := bestF (wN s) (qAt ws) ps
def bestV (s : ST) (ws : VV) : Rat := bF s ws (pcS s ws) s.roll.toNat
def takesV (s : ST) (ws : VV) : List Int := cntL (osl s.items).length (backF (wN s) (qAt ws) (pcS s ws) s.roll.toNat (pcS s ws).length).2
def bestR (s : ST) (ws : VV) : AV :=
  if rightS s = false then aCh zR none 1 else if (osl ws).length ≠ (osl s.items).length then aCh zR none 7
  else if s.roll > 512 ∨ totalS s > 64 then aCh zR none 4 else aCh (rawQ (bestV s ws)) (some (takesV s ws)) 0

abbrev aZero : AV := .one (.fn 134 [])
theorem repRk (n : Nat) : List.replicate n [Cell.c (.val (.bool false)), .c (.val (.slice none 0 0)), .c (.val (.slice none 0 0))] = encB fR (List.replicate n zR) := by rw [encB_replicate]; rfl
theorem repB (n : Nat) : List.replicate n [Cell.c (.val (.bool false))] = encB fBo (List.replicate n false) := by rw [encB_replicate]; rfl

theorem close_Ch {h : List Blk} {a va ta : Nat} {la : Bool} {A : List Int} {x y z u : CV} (h1 : h[a]? = some ⟨va, ta, 1, encB fI A, la, true⟩) :
    closeRes h (.tup [.agg [.c x, .c y, .c z, .own a va], .one (.c u)]) = some (.tup [.agg [.c x, .c y, .c z, .c (encSl 1 fI (some A))], .one (.c u)]) := by
  have e1 : closeCV h 3 (.own a va) = some (encSl 1 fI (some A)) := by
    simp [closeCV, h1, mapM_encB, encSl]
  unfold closeRes
  simp [closeAV, closeFn, closeCell, closeCV] at *
  simp [e1]

/-- A row that is filled so far. -/
def fillL {α : Type} (f : Nat → α) (z : α) (n w : Nat) : List α := (List.range w).map f ++ List.replicate (n - w) z
theorem fillL_len {α : Type} (f : Nat → α) (z : α) (n : Nat) {w : Nat} (h : w ≤ n) : (fillL f z n w).length = n := by unfold fillL; rw [List.length_append, List.length_map, List.length_range, List.length_replicate]; omega
theorem fillL_full {α : Type} (f : Nat → α) (z : α) (n : Nat) : fillL f z n n = (List.range n).map f := by unfold fillL; rw [Nat.sub_self]; simp
theorem fillL_set {α : Type} (f : Nat → α) (z : α) {n w : Nat} (h : w < n) : (fillL f z n w).set w (f w) = fillL f z n (w + 1) := by
  unfold fillL
  rw [List.set_append_right (h := by rw [List.length_map, List.length_range]; exact Nat.le_refl _), List.length_map, List.length_range, Nat.sub_self, show n - w = (n - (w + 1)) + 1 by omega, List.replicate_succ, List.set_cons_zero, List.range_succ, List.map_append, List.append_assoc]
  rfl
theorem fillL_skip {α : Type} (f : Nat → α) (z : α) {n w : Nat} (h : w < n) (hz : f w = z) : fillL f z n w = fillL f z n (w + 1) := by
  rw [← fillL_set f z h, hz]
  unfold fillL
  rw [List.set_append_right (h := by rw [List.length_map, List.length_range]; exact Nat.le_refl _), List.length_map, List.length_range, Nat.sub_self, show n - w = (n - (w + 1)) + 1 by omega, List.replicate_succ, List.set_cons_zero]

def blF (s : ST) (ws : VV) (R : Nat) (ps : List Nat) : List RR := (List.range (R + 1)).map fun w => rawQ (bF s ws ps w)
theorem blF_nil (s : ST) (ws : VV) (R : Nat) : blF s ws R [] = (List.range (R + 1)).map (fun _ => rawQ 0) := rfl
theorem blF_len (s : ST) (ws : VV) (R : Nat) (ps : List Nat) : (blF s ws R ps).length = R + 1 := by unfold blF; rw [List.length_map, List.length_range]
theorem blF_at (s : ST) (ws : VV) (R : Nat) (ps : List Nat) (w : Nat) (h : w < (blF s ws R ps).length) : (blF s ws R ps)[w] = rawQ (bF s ws ps w) := by simp [blF]
theorem qAt_fits {ws : VV} {n L : Nat} (hw : FitsV ws n L) (hL : 1 ≤ L) (k : Nat) : FitsQ (qAt ws k) L := (hw.at k).val hL
theorem fits_best {s : ST} {ws : VV} {n L : Nat} (hw : FitsV ws n L) (hL : 1 ≤ L) (ps : List Nat) : ∀ w, FitsQ (bF s ws ps w) (ps.length * (L + 1) + 1) := by
  have key : ∀ m, m ≤ ps.length → ∀ w, FitsQ (bF s ws (ps.take m) w) (m * (L + 1) + 1) := by
    intro m
    induction m with
    | zero => intro _ w; exact fitsQ_zero _ (by omega)
    | succ m ih =>
      intro hm w
      have e : ps.take (m + 1) = ps.take m ++ [ps[m]] := by rw [List.take_succ_eq_append_getElem (by omega)]
      unfold bF at ih ⊢
      rw [e, bestF_snoc]
      unfold stepB
      have h1 := ih (by omega)
      split
      · exact ((h1 _).add1 (qAt_fits hw hL _)).mono (by rw [Nat.add_mul m 1]; omega)
      · exact (h1 w).mono (by rw [Nat.add_mul m 1]; omega)
  have := key ps.length (Nat.le_refl _)
  rwa [List.take_length] at this
theorem pcTo_le_each (g sg : Nat → Int) (k : Nat) : (pcTo g sg k).length ≤ (eachTo g k).length := by
  induction k with
  | zero => exact Nat.le_refl _
  | succ k ih => rw [pcTo_succ_len, eachTo_succ_len]; split <;> omega
theorem pc_le {T : Nat} {s : ST} (hT : totalS s = T) (ws : VV) (hr : rightS s = true) : (pcS s ws).length ≤ T := by
  have rt := rtS_of hr
  rw [← hT]
  unfold totalS eachS
  rw [if_pos hr]
  have : ∀ k, k ≤ (osl s.items).length → pcTo (fun i => (itAt s i).need) (sgW ws) k = pcTo (needG s) (sgW ws) k := fun k => by
    induction k with
    | zero => intro _; rfl
    | succ k ih =>
      intro hk
      show pcTo _ _ k ++ _ = pcTo _ _ k ++ _
      have := (rt.item k (by omega)).2
      rw [ih (by omega), show needG s k = (itAt s k).need from by unfold needG; rw [if_pos this]]
  unfold pcS
  rw [this _ (Nat.le_refl _)]
  exact pcTo_le_each _ _ _

abbrev c85_k1 : CC := (.seq (.reg [⟨(some 174), none, (.load 4 true (.tmp 16))⟩, ⟨none, none, (.store 4 (.tmp 4) (.tmp 174))⟩, ⟨(some 5), none, (.mv (.const (.int .i64 (0))))⟩]) .ret)
abbrev c85_b1 : CC := (.seq (.seq (.reg [⟨(some 142), none, (.mv (.tmp 18))⟩, ⟨(some 143), none, (.bin .geq (.tmp 142) (.const (.int .i64 (0))))⟩]) (.cond (.tmp 143) .skip (.exit 7))) (.seq (.block 8 (.seq (.reg [⟨(some 146), none, (.load 1 false (.tmp 10))⟩, ⟨(some 147), none, (.mv (.tmp 18))⟩, ⟨(some 148), none, (.iaddr 1 none (.tmp 146) (.tmp 147))⟩, ⟨(some 149), none, (.load 1 false (.tmp 148))⟩, ⟨(some 150), none, (.mv (.tmp 17))⟩, ⟨(some 151), none, (.iaddr 1 none (.tmp 149) (.tmp 150))⟩, ⟨(some 152), none, (.load 1 false (.tmp 151))⟩]) (.cond (.tmp 152) (.seq (.reg [⟨(some 153), none, (.faddr 3 (.tmp 16))⟩, ⟨(some 154), none, (.load 1 false (.tmp 153))⟩, ⟨(some 155), none, (.load 1 false (.tmp 9))⟩, ⟨(some 156), none, (.mv (.tmp 18))⟩, ⟨(some 157), none, (.iaddr 1 none (.tmp 155) (.tmp 156))⟩, ⟨(some 158), none, (.load 1 false (.tmp 157))⟩, ⟨(some 159), none, (.iaddr 1 none (.tmp 154) (.tmp 158))⟩, ⟨(some 160), none, (.load 1 false (.tmp 159))⟩, ⟨(some 161), none, (.bin .add (.tmp 160) (.const (.int .i64 (1))))⟩, ⟨(some 162), none, (.iaddr 1 none (.tmp 154) (.tmp 158))⟩, ⟨none, none, (.store 1 (.tmp 162) (.tmp 161))⟩]) (.reg [⟨(some 163), none, (.mv (.tmp 17))⟩, ⟨(some 164), none, (.faddr 1 (.tmp 2))⟩, ⟨(some 165), none, (.load 1 false (.tmp 164))⟩, ⟨(some 166), none, (.load 1 false (.tmp 9))⟩, ⟨(some 167), none, (.mv (.tmp 18))⟩, ⟨(some 168), none, (.iaddr 1 none (.tmp 166) (.tmp 167))⟩, ⟨(some 169), none, (.load 1 false (.tmp 168))⟩, ⟨(some 170), none, (.iaddr 2 none (.tmp 165) (.tmp 169))⟩, ⟨(some 171), none, (.faddr 0 (.tmp 170))⟩, ⟨(some 172), none, (.load 1 false (.tmp 171))⟩, ⟨(some 173), none, (.bin .sub (.tmp 163) (.tmp 172))⟩, ⟨(some 17), none, (.mv (.tmp 173))⟩])) .skip))) (.reg [⟨(some 144), none, (.mv (.tmp 18))⟩, ⟨(some 145), none, (.bin .sub (.tmp 144) (.const (.int .i64 (1))))⟩, ⟨(some 18), none, (.mv (.tmp 145))⟩])))
abbrev c85_k2 : CC := (.seq (.regn true [⟨(some 127), none, (.load 1 false (.tmp 7))⟩, ⟨(some 128), none, (.faddr 0 (.tmp 2))⟩, ⟨(some 129), none, (.load 1 false (.tmp 128))⟩, ⟨(some 130), none, (.iaddr 3 none (.tmp 127) (.tmp 129))⟩, ⟨(some 131), none, (.load 3 true (.tmp 130))⟩, ⟨(some 132), none, (.faddr 1 (.tmp 2))⟩, ⟨(some 133), none, (.load 1 false (.tmp 132))⟩, ⟨(some 134), none, (.len false (.tmp 133))⟩, ⟨(some 135), none, (.make 3 1 8 [(.int .i64 (0))] (.tmp 134) (.tmp 134))⟩, ⟨(some 136), none, (.build [(.bool false), (.slice none 0 0), (.slice none 0 0), (.slice none 0 0)] [(0, (3, (.tmp 131))), (3, (1, (.tmp 135)))])⟩, ⟨(some 16), none, (.fill 117 [(.bool false), (.slice none 0 0), (.slice none 0 0), (.slice none 0 0)])⟩, ⟨none, none, (.store 4 (.tmp 16) (.tmp 136))⟩]) (.seq (.reg [⟨(some 137), none, (.faddr 0 (.tmp 2))⟩, ⟨(some 138), none, (.load 1 false (.tmp 137))⟩, ⟨(some 17), none, (.mv (.tmp 138))⟩]) (.seq (.seq (.reg [⟨(some 139), none, (.load 1 false (.tmp 9))⟩, ⟨(some 140), none, (.len false (.tmp 139))⟩, ⟨(some 141), none, (.bin .sub (.tmp 140) (.const (.int .i64 (1))))⟩, ⟨(some 18), none, (.mv (.tmp 141))⟩]) (.block 7 (.loop c85_b1))) c85_k1)))
abbrev c85_k3 : CC := (.seq (.reg [⟨(some 118), none, (.mv (.tmp 12))⟩, ⟨none, none, (.store 1 (.tmp 7) (.tmp 118))⟩]) (.regn false [⟨(some 119), none, (.load 1 false (.tmp 9))⟩, ⟨(some 120), none, (.mv (.tmp 11))⟩, ⟨(some 121), none, (.mkrowc 1 [(.tmp 120)])⟩, ⟨(some 122), none, (.append 3 1 8 (.tmp 119) (.tmp 121))⟩, ⟨(some 123), none, (.load 1 false (.tmp 10))⟩, ⟨(some 124), none, (.mv (.tmp 13))⟩, ⟨(some 125), none, (.mkrowc 1 [(.tmp 124)])⟩, ⟨(some 126), none, (.append 170 1 24 (.tmp 123) (.tmp 125))⟩, ⟨none, none, (.store 1 (.tmp 9) (.tmp 122))⟩, ⟨none, none, (.store 1 (.tmp 10) (.tmp 126))⟩]))
abbrev c85_b2 : CC := (.seq (.reg [⟨(some 70), none, (.bin .lss (.tmp 69) (.tmp 68))⟩]) (.seq (.cond (.tmp 70) .skip (.exit 5)) (.seq (.block 6 (.seq (.reg [⟨(some 71), none, (.mv (.tmp 69))⟩, ⟨(some 14), none, (.mv (.tmp 71))⟩]) (.seq (.reg [⟨(some 72), none, (.mv (.tmp 12))⟩, ⟨(some 73), none, (.mv (.tmp 14))⟩, ⟨(some 74), none, (.load 1 false (.tmp 7))⟩, ⟨(some 75), none, (.mv (.tmp 14))⟩, ⟨(some 76), none, (.iaddr 3 none (.tmp 74) (.tmp 75))⟩, ⟨(some 77), none, (.load 3 true (.tmp 76))⟩, ⟨(some 78), none, (.iaddr 3 none (.tmp 72) (.tmp 73))⟩, ⟨none, none, (.store 3 (.tmp 78) (.tmp 77))⟩]) (.seq (.seq (.reg [⟨(some 79), none, (.mv (.tmp 14))⟩, ⟨(some 80), none, (.faddr 1 (.tmp 2))⟩, ⟨(some 81), none, (.load 1 false (.tmp 80))⟩, ⟨(some 82), none, (.mv (.tmp 11))⟩, ⟨(some 83), none, (.iaddr 2 none (.tmp 81) (.tmp 82))⟩, ⟨(some 84), none, (.faddr 0 (.tmp 83))⟩, ⟨(some 85), none, (.load 1 false (.tmp 84))⟩, ⟨(some 86), none, (.bin .lss (.tmp 79) (.tmp 85))⟩]) (.cond (.tmp 86) (.exit 6) .skip)) (.seq (.regn true [⟨(some 87), none, (.load 1 false (.tmp 7))⟩, ⟨(some 88), none, (.mv (.tmp 14))⟩, ⟨(some 89), none, (.faddr 1 (.tmp 2))⟩, ⟨(some 90), none, (.load 1 false (.tmp 89))⟩, ⟨(some 91), none, (.mv (.tmp 11))⟩, ⟨(some 92), none, (.iaddr 2 none (.tmp 90) (.tmp 91))⟩, ⟨(some 93), none, (.faddr 0 (.tmp 92))⟩, ⟨(some 94), none, (.load 1 false (.tmp 93))⟩, ⟨(some 95), none, (.bin .sub (.tmp 88) (.tmp 94))⟩, ⟨(some 96), none, (.iaddr 3 none (.tmp 87) (.tmp 95))⟩, ⟨(some 97), none, (.load 3 true (.tmp 96))⟩, ⟨(some 98), none, (.load 1 false (.tmp 3))⟩, ⟨(some 99), none, (.mv (.tmp 11))⟩, ⟨(some 100), none, (.iaddr 3 none (.tmp 98) (.tmp 99))⟩, ⟨(some 101), none, (.load 3 true (.tmp 100))⟩, ⟨(some 102), none, (.callf (.func 47) [(.tmp 97), (.tmp 101)])⟩, ⟨(some 15), none, (.fill 40 [(.bool false), (.slice none 0 0), (.slice none 0 0)])⟩, ⟨none, none, (.store 3 (.tmp 15) (.tmp 102))⟩]) (.seq (.reg [⟨(some 103), none, (.load 3 true (.tmp 15))⟩, ⟨(some 104), none, (.load 1 false (.tmp 7))⟩, ⟨(some 105), none, (.mv (.tmp 14))⟩, ⟨(some 106), none, (.iaddr 3 none (.tmp 104) (.tmp 105))⟩, ⟨(some 107), none, (.load 3 true (.tmp 106))⟩, ⟨(some 108), none, (.callf (.func 46) [(.tmp 103), (.tmp 107)])⟩, ⟨(some 109), none, (.bin .gtr (.tmp 108) (.const (.int .i64 (0))))⟩]) (.cond (.tmp 109) (.reg [⟨(some 110), none, (.mv (.tmp 12))⟩, ⟨(some 111), none, (.mv (.tmp 14))⟩, ⟨(some 112), none, (.mv (.tmp 13))⟩, ⟨(some 113), none, (.mv (.tmp 14))⟩, ⟨(some 114), none, (.load 3 true (.tmp 15))⟩, ⟨(some 115), none, (.iaddr 3 none (.tmp 110) (.tmp 111))⟩, ⟨none, none, (.store 3 (.tmp 115) (.tmp 114))⟩, ⟨(some 116), none, (.iaddr 1 none (.tmp 112) (.tmp 113))⟩, ⟨none, none, (.store 1 (.tmp 116) (.const (.bool true)))⟩]) .skip))))))) (.reg [⟨(some 117), none, (.bin .add (.tmp 69) (.const (.int .i64 (1))))⟩, ⟨(some 69), none, (.mv (.tmp 117))⟩]))))
abbrev c85_b3 : CC := (.block 4 (.seq (.reg [⟨(some 61), none, (.load 1 false (.tmp 7))⟩, ⟨(some 62), none, (.len false (.tmp 61))⟩, ⟨(some 63), none, (.make 40 3 56 [(.bool false), (.slice none 0 0), (.slice none 0 0)] (.tmp 62) (.tmp 62))⟩, ⟨(some 12), none, (.mv (.tmp 63))⟩]) (.seq (.reg [⟨(some 64), none, (.load 1 false (.tmp 7))⟩, ⟨(some 65), none, (.len false (.tmp 64))⟩, ⟨(some 66), none, (.make 4 1 1 [(.bool false)] (.tmp 65) (.tmp 65))⟩, ⟨(some 13), none, (.mv (.tmp 66))⟩]) (.seq (.seq (.reg [⟨(some 67), none, (.load 1 false (.tmp 7))⟩, ⟨(some 68), none, (.len false (.tmp 67))⟩, ⟨(some 69), none, (.mv (.const (.int .i64 (0))))⟩]) (.block 5 (.loop c85_b2))) c85_k3))))
abbrev c85_k4 : CC := (.seq (.reg [⟨(some 9), none, (.new 69 [(.slice none 0 0)])⟩]) (.seq (.reg [⟨(some 10), none, (.new 167 [(.slice none 0 0)])⟩]) (.seq (.seq (.reg [⟨(some 57), none, (.load 2 true (.tmp 2))⟩, ⟨(some 58), none, (.load 1 false (.tmp 3))⟩, ⟨(some 59), none, (.callf (.func 135) [(.tmp 57), (.tmp 58)])⟩]) (.block 3 (.rf (.tmp 59) [60] [(11, 60)] c85_b3))) c85_k2)))
abbrev c85_b4 : CC := (.seq (.reg [⟨(some 49), none, (.bin .lss (.tmp 48) (.tmp 47))⟩]) (.seq (.cond (.tmp 49) .skip (.exit 1)) (.seq (.block 2 (.seq (.reg [⟨(some 50), none, (.mv (.tmp 48))⟩, ⟨(some 8), none, (.mv (.tmp 50))⟩]) (.reg [⟨(some 51), none, (.load 1 false (.tmp 7))⟩, ⟨(some 52), none, (.mv (.tmp 8))⟩, ⟨(some 53), none, (.mv (.tmp 6))⟩, ⟨(some 54), none, (.callf (.tmp 53) [])⟩, ⟨(some 55), none, (.iaddr 3 none (.tmp 51) (.tmp 52))⟩, ⟨none, none, (.store 3 (.tmp 55) (.tmp 54))⟩]))) (.reg [⟨(some 56), none, (.bin .add (.tmp 48) (.const (.int .i64 (1))))⟩, ⟨(some 48), none, (.mv (.tmp 56))⟩]))))
abbrev c85 : CC := (.seq (.reg [⟨(some 2), none, (.box 110 (.tmp 0))⟩, ⟨(some 3), none, (.box 22 (.tmp 1))⟩, ⟨(some 4), none, (.new 117 [(.bool false), (.slice none 0 0), (.slice none 0 0), (.slice none 0 0)])⟩, ⟨(some 5), none, (.mv (.const (.int .i64 (0))))⟩]) (.seq (.block 0 (.seq (.reg [⟨(some 20), none, (.load 2 true (.tmp 2))⟩, ⟨(some 21), none, (.callf (.func 132) [(.tmp 20)])⟩, ⟨(some 22), none, (.un .not (.tmp 21))⟩, ⟨(some 19), none, (.mv (.tmp 22))⟩]) (.cond (.tmp 19) (.seq (.reg [⟨(some 23), none, (.build [(.bool false), (.slice none 0 0), (.slice none 0 0), (.slice none 0 0)] [])⟩, ⟨none, none, (.store 4 (.tmp 4) (.tmp 23))⟩, ⟨(some 5), none, (.mv (.const (.int .i64 (1))))⟩]) .ret) (.seq (.reg [⟨(some 25), none, (.load 1 false (.tmp 3))⟩, ⟨(some 26), none, (.len false (.tmp 25))⟩, ⟨(some 27), none, (.faddr 1 (.tmp 2))⟩, ⟨(some 28), none, (.load 1 false (.tmp 27))⟩, ⟨(some 29), none, (.len false (.tmp 28))⟩, ⟨(some 30), none, (.bin .neq (.tmp 26) (.tmp 29))⟩, ⟨(some 24), none, (.mv (.tmp 30))⟩]) (.cond (.tmp 24) (.seq (.reg [⟨(some 31), none, (.build [(.bool false), (.slice none 0 0), (.slice none 0 0), (.slice none 0 0)] [])⟩, ⟨none, none, (.store 4 (.tmp 4) (.tmp 31))⟩, ⟨(some 5), none, (.mv (.const (.int .i64 (7))))⟩]) .ret) (.seq (.reg [⟨(some 33), none, (.faddr 0 (.tmp 2))⟩, ⟨(some 34), none, (.load 1 false (.tmp 33))⟩, ⟨(some 35), none, (.bin .gtr (.tmp 34) (.const (.int .i64 (512))))⟩, ⟨(some 36), none, (.mv (.tmp 35))⟩, ⟨(some 37), (some (36, false)), (.load 2 true (.tmp 2))⟩, ⟨(some 38), (some (36, false)), (.callf (.func 133) [(.tmp 37)])⟩, ⟨(some 39), (some (36, false)), (.bin .gtr (.tmp 38) (.const (.int .i64 (64))))⟩, ⟨(some 40), none, (.pick (.tmp 36) (.const (.bool true)) (.tmp 39))⟩, ⟨(some 32), none, (.mv (.tmp 40))⟩]) (.cond (.tmp 32) (.seq (.reg [⟨(some 41), none, (.build [(.bool false), (.slice none 0 0), (.slice none 0 0), (.slice none 0 0)] [])⟩, ⟨none, none, (.store 4 (.tmp 4) (.tmp 41))⟩, ⟨(some 5), none, (.mv (.const (.int .i64 (4))))⟩]) .ret) .skip))))))) (.seq (.reg [⟨(some 6), none, (.mv (.func 134))⟩]) (.seq (.reg [⟨(some 42), none, (.faddr 0 (.tmp 2))⟩, ⟨(some 43), none, (.load 1 false (.tmp 42))⟩, ⟨(some 44), none, (.bin .add (.tmp 43) (.const (.int .i64 (1))))⟩, ⟨(some 45), none, (.make 40 3 56 [(.bool false), (.slice none 0 0), (.slice none 0 0)] (.tmp 44) (.tmp 44))⟩, ⟨(some 7), none, (.new 22 [(.slice none 0 0)])⟩, ⟨none, none, (.store 1 (.tmp 7) (.tmp 45))⟩]) (.seq (.seq (.reg [⟨(some 46), none, (.load 1 false (.tmp 7))⟩, ⟨(some 47), none, (.len false (.tmp 46))⟩, ⟨(some 48), none, (.mv (.const (.int .i64 (0))))⟩]) (.block 1 (.loop c85_b4))) c85_k4)))))
theorem cc85 : ccode Try.prog [] (Try.f85.body.getD .skip) = some c85 := by kernel_rfl
theorem body85 : Try.f85.body = some (Try.f85.body.getD .skip) := rfl

theorem kbest_C (s : ST) (ws : VV) (n L : Nat) (hw : FitsV ws n L) (hn : n ≤ 1000) (hL : 1 ≤ L) (hL2 : L ≤ 1000) : PureC Try.prog 85 [aSt s, aV ws] (.ret (bestR s ws)) := by
  have hr := stright_C s
  have hw1 := hw.1
  unfold bestR
  cases c1 : rightS s with
  | false =>
    rw [c1] at hr
    rw [if_pos rfl]
    refine pureC_of (rs := [(RV.cell 4 4 true), (RV.tmp 5)]) Try.func85 (fun a w => Try.call85 a w) body85 cc85 (by kernel_rfl) ?_
    rw [Try.ntmps85]
    simp only [frs, Nat.reduceAdd, Nat.reduceSub]
    repeat (first | (with_reducible first | refine Way.imp ?_ | refine blk_o rfl ?_) | ((with_reducible refine WayR.imp (fun K hK => ?_)); simp (maxSteps := 2000000) (disch := first | omega | (simp only [dls]; omega)) only [std, reduceIte, reduceCtorEq, Int.reduceToNat, Nat.reduceAdd, Nat.reduceSub, Nat.reduceMul, Int.reduceAdd, Int.reduceSub, Int.reduceMul, Int.reduceNeg, fU]; subst hK) | refine zcA (hr) rfl rfl rfl ?_)
    exact ⟨_, rfl, rfl⟩
  | true =>
  rw [c1] at hr
  rw [if_neg (by simp)]
  have rt := rtS_of c1
  have hl60 := rt.len
  by_cases c2 : (osl ws).length = (osl s.items).length
  case neg =>
    rw [if_pos c2]
    refine pureC_of (rs := [(RV.cell 4 4 true), (RV.tmp 5)]) Try.func85 (fun a w => Try.call85 a w) body85 cc85 (by kernel_rfl) ?_
    rw [Try.ntmps85]
    simp only [frs, Nat.reduceAdd, Nat.reduceSub]
    repeat (first | (with_reducible first | refine Way.imp ?_ | refine blk_o rfl ?_) | ((with_reducible refine WayR.imp (fun K hK => ?_)); simp (maxSteps := 2000000) (disch := first | omega | (simp only [dls]; omega)) only [std, reduceIte, reduceCtorEq, Int.reduceToNat, Nat.reduceAdd, Nat.reduceSub, Nat.reduceMul, Int.reduceAdd, Int.reduceSub, Int.reduceMul, Int.reduceNeg, fU]; subst hK) | refine zcA (hr) rfl rfl rfl ?_)
    exact ⟨_, rfl, rfl⟩
  rw [if_neg (by simpa using c2)]
  have ht := total_C s
  have hpc := pieces_C s ws
  by_cases c3 : s.roll > 512 ∨ totalS s > 64
  · rw [if_pos c3]
    by_cases c4 : s.roll > 512
    · refine pureC_of (rs := [(RV.cell 4 4 true), (RV.tmp 5)]) Try.func85 (fun a w => Try.call85 a w) body85 cc85 (by kernel_rfl) ?_
      rw [Try.ntmps85]
      simp only [frs, Nat.reduceAdd, Nat.reduceSub]
      repeat (first | (with_reducible first | refine Way.imp ?_ | refine blk_o rfl ?_) | ((with_reducible refine WayR.imp (fun K hK => ?_)); simp (maxSteps := 2000000) (disch := first | omega | (simp only [dls]; omega)) only [std, reduceIte, reduceCtorEq, Int.reduceToNat, Nat.reduceAdd, Nat.reduceSub, Nat.reduceMul, Int.reduceAdd, Int.reduceSub, Int.reduceMul, Int.reduceNeg, fU, c2]; subst hK) | refine zcA (hr) rfl rfl rfl ?_)
      exact ⟨_, rfl, rfl⟩
    · have c5 : totalS s > 64 := by omega
      generalize totalS s = T at *
      refine pureC_of (rs := [(RV.cell 4 4 true), (RV.tmp 5)]) Try.func85 (fun a w => Try.call85 a w) body85 cc85 (by kernel_rfl) ?_
      rw [Try.ntmps85]
      simp only [frs, Nat.reduceAdd, Nat.reduceSub]
      repeat (first | (with_reducible first | refine Way.imp ?_ | refine blk_o rfl ?_) | ((with_reducible refine WayR.imp (fun K hK => ?_)); simp (maxSteps := 2000000) (disch := first | omega | (simp only [dls]; omega)) only [std, reduceIte, reduceCtorEq, Int.reduceToNat, Nat.reduceAdd, Nat.reduceSub, Nat.reduceMul, Int.reduceAdd, Int.reduceSub, Int.reduceMul, Int.reduceNeg, fU, c2]; subst hK) | refine zcA (hr) rfl rfl rfl ?_ | (apply call_any_g (ht) rfl; (case hg => simp (maxSteps := 2000000) (disch := first | omega | (simp only [dls]; omega)) only [std, reduceIte, reduceCtorEq, Int.reduceToNat, Nat.reduceAdd, Nat.reduceSub, Nat.reduceMul, Int.reduceAdd, Int.reduceSub, Int.reduceMul, Int.reduceNeg, fU, c2]); (case hcl => (simp only [evs, St.ev, constAV, evl]; (repeat (first | exact closeAVs_nil | (apply closeAVs_cons; (first | (refine close_own3 rfl (by decide)) | (refine close_ownO rfl (by decide) ?_; assumption) | rfl)))); done)); (case hu => rfl)))
      exact ⟨_, rfl, rfl⟩
  rw [if_neg c3]
  have c4 : s.roll ≤ 512 := by omega
  have c5 : totalS s ≤ 64 := by omega
  obtain ⟨r1, r2⟩ := rt.roll
  generalize hT : totalS s = T at ht c5
  obtain ⟨R, hR⟩ : ∃ R : Nat, s.roll = (R : Int) := ⟨s.roll.toNat, by omega⟩
  have hb1 := best1_C
  have hsetR : ∀ (l : List RR) (k : Nat) (r : RR), (encB fR l).set k [Cell.c (.val (.bool r.minus)), Cell.c (nr r.size), Cell.c (nr r.den)] = encB fR (l.set k r) := fun l k r => encB_set l k r
  have hRn : (s.roll + 1).toNat = R + 1 := by omega
  have hRl : (List.replicate (R + 1) zR).length = R + 1 := List.length_replicate
  refine pureC_of (rs := [(RV.cell 4 4 true), (RV.tmp 5)]) Try.func85 (fun a w => Try.call85 a w) body85 cc85 (by kernel_rfl) ?_
  rw [Try.ntmps85]
  simp only [frs, Nat.reduceAdd, Nat.reduceSub]
  repeat (first | (with_reducible first | refine Way.imp ?_ | refine blk_o rfl ?_) | ((with_reducible refine WayR.imp (fun K hK => ?_)); simp (maxSteps := 2000000) (disch := first | omega | (simp only [dls]; omega)) only [std, reduceIte, reduceCtorEq, Int.reduceToNat, Nat.reduceAdd, Nat.reduceSub, Nat.reduceMul, Int.reduceAdd, Int.reduceSub, Int.reduceMul, Int.reduceNeg, fU, c2, repRk, hRn, hRl]; subst hK) | refine zcA (hr) rfl rfl rfl ?_ | (apply call_any_g (ht) rfl; (case hg => simp (maxSteps := 2000000) (disch := first | omega | (simp only [dls]; omega)) only [std, reduceIte, reduceCtorEq, Int.reduceToNat, Nat.reduceAdd, Nat.reduceSub, Nat.reduceMul, Int.reduceAdd, Int.reduceSub, Int.reduceMul, Int.reduceNeg, fU, c2, repRk, hRn, hRl]); (case hcl => (simp only [evs, St.ev, constAV, evl]; (repeat (first | exact closeAVs_nil | (apply closeAVs_cons; (first | (refine close_own3 rfl (by decide)) | (refine close_ownO rfl (by decide) ?_; assumption) | rfl)))); done)); (case hu => rfl)))
  refine awp_loop (fun (zz : Nat × (List RR)) => ⟨(.junk :: .junk :: .one (.ptr 0 0 0 0) :: .one (.ptr 1 0 0 0) :: .one (.ptr 2 0 0 0) :: aI 0 :: aZero :: .one (.ptr 4 0 0 0) :: .junk :: .junk :: .junk :: .junk :: .junk :: .junk :: .junk :: .junk :: .junk :: .junk :: .junk :: .junk :: .junk :: .junk :: .junk :: .junk :: .junk :: .junk :: .junk :: .junk :: .junk :: .junk :: .junk :: .junk :: .junk :: .junk :: .junk :: .junk :: .junk :: .junk :: .junk :: .junk :: .junk :: .junk :: .junk :: .junk :: .junk :: .junk :: .junk :: aI (R + 1 : Nat) :: aI zz.1 :: .junk :: .junk :: .junk :: .junk :: .junk :: .junk :: .junk :: .junk :: .junk :: .junk :: .junk :: .junk :: .junk :: .junk :: .junk :: .junk :: .junk :: .junk :: .junk :: .junk :: .junk :: .junk :: .junk :: .junk :: .junk :: .junk :: .junk :: .junk :: .junk :: .junk :: .junk :: .junk :: .junk :: .junk :: .junk :: .junk :: .junk :: .junk :: .junk :: .junk :: .junk :: .junk :: .junk :: .junk :: .junk :: .junk :: .junk :: .junk :: .junk :: .junk :: .junk :: .junk :: .junk :: .junk :: .junk :: .junk :: .junk :: .junk :: .junk :: .junk :: .junk :: .junk :: .junk :: .junk :: .junk :: .junk :: .junk :: .junk :: .junk :: .junk :: .junk :: .junk :: .junk :: .junk :: .junk :: .junk :: .junk :: .junk :: .junk :: .junk :: .junk :: .junk :: .junk :: .junk :: .junk :: .junk :: .junk :: .junk :: .junk :: .junk :: .junk :: .junk :: .junk :: .junk :: .junk :: .junk :: .junk :: .junk :: .junk :: .junk :: .junk :: .junk :: .junk :: .junk :: .junk :: .junk :: .junk :: .junk :: .junk :: .junk :: .junk :: .junk :: .junk :: .junk :: .junk :: .junk :: .junk :: .junk :: .junk :: .junk :: .junk :: .junk :: .junk :: .junk :: .junk :: .junk :: []), [⟨0, 110, 2, [[.c (.val (.int .i64 s.roll)), .c (encSl 2 fItm s.items)]], true, true⟩, ⟨0, 22, 1, [[.c (vr ws)]], true, true⟩, ⟨0, 117, 4, [[.c (.val (.bool false)), .c (.val (.slice none 0 0)), .c (.val (.slice none 0 0)), .c (.val (.slice none 0 0))]], true, true⟩, ⟨0, 40, 3, encB fR zz.2, true, true⟩, ⟨0, 22, 1, [[.own 3 0]], true, true⟩]⟩) (fun (zz : Nat × (List RR)) => zz.1 ≤ R + 1 ∧ zz.2 = fillL (fun _ => rawQ 0) zR (R + 1) zz.1) (fun (zz : Nat × (List RR)) => R + 1 - zz.1) (0, List.replicate (R + 1) zR) ?hI1 (Fgt.head (Nat.zero_le 5) (false :: false :: true :: true :: true :: true :: true :: true :: false :: false :: false :: false :: false :: false :: false :: false :: false :: false :: false :: false :: false :: false :: false :: false :: false :: false :: false :: false :: false :: false :: false :: false :: false :: false :: false :: false :: false :: false :: false :: false :: false :: false :: false :: false :: false :: false :: false :: true :: true :: []) ?hT1 ?hH1) ?hB1
  case hT1 => first | (simp (maxSteps := 2000000) (disch := omega) only [hds, liveT, cleanAV, cleanCell, clean1, cleanBlk, reduceIte, Int.reduceSub, Int.reduceAdd, Int.reduceNeg]; done) | rfl
  case hH1 => first | (simp (maxSteps := 2000000) (disch := omega) only [hds, liveT, cleanAV, cleanCell, clean1, cleanBlk, reduceIte, Int.reduceSub, Int.reduceAdd, Int.reduceNeg]; done) | rfl
  · dsimp only; exact ⟨Nat.zero_le _, rfl⟩
  rintro ⟨w, bl⟩ ⟨hwR, hbl⟩
  dsimp only at hwR hbl
  have hbll : bl.length = R + 1 := by rw [hbl]; exact fillL_len _ _ _ hwR
  by_cases hwe : w = R + 1
  case neg =>
    have hwlt : w < R + 1 := by omega
    repeat (first | (with_reducible first | refine Way.imp ?_ | refine blk_o rfl ?_) | ((with_reducible refine WayR.imp (fun K hK => ?_)); simp (maxSteps := 2000000) (disch := first | omega | (simp only [dls]; omega)) only [std, reduceIte, reduceCtorEq, Int.reduceToNat, Nat.reduceAdd, Nat.reduceSub, Nat.reduceMul, Int.reduceAdd, Int.reduceSub, Int.reduceMul, Int.reduceNeg, fU, fR, hbll, hsetR]; subst hK) | refine zcV (hb1) rfl rfl rfl ?_)
    refine ⟨(w + 1, bl.set w (rawQ 0)), ?hI2, ?hM2, Fgt.head (Nat.zero_le 5) (false :: false :: true :: true :: true :: true :: true :: true :: false :: false :: false :: false :: false :: false :: false :: false :: false :: false :: false :: false :: false :: false :: false :: false :: false :: false :: false :: false :: false :: false :: false :: false :: false :: false :: false :: false :: false :: false :: false :: false :: false :: false :: false :: false :: false :: false :: false :: true :: true :: []) ?hT2 ?hH2⟩
    case hT2 => first | (simp (maxSteps := 2000000) (disch := omega) only [hds, liveT, cleanAV, cleanCell, clean1, cleanBlk, reduceIte, Int.reduceSub, Int.reduceAdd, Int.reduceNeg]; done) | rfl
    case hH2 => first | (simp (maxSteps := 2000000) (disch := omega) only [hds, liveT, cleanAV, cleanCell, clean1, cleanBlk, reduceIte, Int.reduceSub, Int.reduceAdd, Int.reduceNeg]; done) | rfl
    · dsimp only
      exact ⟨hwlt, by rw [hbl]; exact fillL_set (fun _ => rawQ 0) zR hwlt⟩
    · dsimp only; omega
  rw [hwe, fillL_full] at hbl
  repeat (first | (with_reducible first | refine Way.imp ?_ | refine blk_o rfl ?_) | ((with_reducible refine WayR.imp (fun K hK => ?_)); simp (maxSteps := 2000000) (disch := first | omega | (simp only [dls]; omega)) only [std, reduceIte, reduceCtorEq, Int.reduceToNat, Nat.reduceAdd, Nat.reduceSub, Nat.reduceMul, Int.reduceAdd, Int.reduceSub, Int.reduceMul, Int.reduceNeg, fU]; subst hK) | refine zcA (hpc) rfl rfl rfl ?_)
  have hfit : ∀ ps : List Nat, ∀ w, FitsQ (bF s ws ps w) (ps.length * (L + 1) + 1) := fun ps w => fits_best hw hL ps w
  have hsgn : ∀ k, Fits (rAt ws k) 1000000000 := fun k => (hw.at k).mono (by omega)
  have hpl : (pcS s ws).length ≤ 64 := Nat.le_trans (pc_le hT ws c1) c5
  have hit := pieces_iter s ws c1 c2 hsgn
  refine AWp.fgt ?_ (Fgt.cells (b := 4) (els' := [[.c (encSl 3 fR (some bl))]]) [3] rfl rfl (.cons (clo_own (ty := 40) (live := true) rfl (by decide) (by simp)) .nil))
  rw [freeze_from]
  simp only [fzl, Nat.reduceBEq, Nat.reduceAdd, Bool.false_eq_true, if_true, if_false, reduceIte, List.set_cons_zero, List.set_cons_succ]
  refine AWp.fgt ?_ (Fgt.phantom _ 3 1)
  refine AWp.fgt ?_ (Fgt.phantom _ 170 1)
  refine AWp.fgt ?_ (Fgt.cellsOpen (b := 5) (els' := [[.own 7 0]]) rfl (.cons (.cons (.inr ⟨rfl, 7, _, rfl, rfl, rfl⟩) .nil) .nil))
  refine AWp.fgt ?_ (Fgt.cellsOpen (b := 6) (els' := [[.own 8 0]]) rfl (.cons (.cons (.inr ⟨rfl, 8, _, rfl, rfl, rfl⟩) .nil) .nil))
  simp only [List.cons_append, List.nil_append, List.set_cons_succ, List.set_cons_zero]
  refine awp_fold hit rfl (by simp [closedCell])
    (fun (ps : List Nat) => [⟨0, 110, 2, [[.c (.val (.int .i64 s.roll)), .c (encSl 2 fItm s.items)]], true, true⟩, ⟨0, 22, 1, [[.c (vr ws)]], true, true⟩, ⟨0, 117, 4, [[.c (.val (.bool false)), .c (.val (.slice none 0 0)), .c (.val (.slice none 0 0)), .c (.val (.slice none 0 0))]], true, true⟩, ⟨0, 40, 3, encB fR bl, false, true⟩, ⟨0, 22, 1, [[.c (encSl 3 fR (some (blF s ws R ps)))]], true, true⟩, ⟨0, 69, 1, [[.own 7 ps.length]], true, true⟩, ⟨0, 167, 1, [[.own 8 ps.length]], true, true⟩,
      ⟨ps.length, 3, 1, encB fI (ps.map Int.ofNat), true, !ps.isEmpty⟩, ⟨ps.length, 170, 1, encB fBr (takeL (wN s) (qAt ws) (R + 1) ps), true, !ps.isEmpty⟩])
    (fun ps k => ps ++ [k.1]) (fun i ps => ps.length = i) [] (by simp only [hbl]; rw [blF_nil]; rfl) rfl ?_ ?_
  · intro i ps k hi hps
    simp only [mvT, setps, rnd, Nat.reduceAdd]
    obtain ⟨kk, hk⟩ := k
    dsimp only at *
    have hkw : kk < (osl ws).length := by omega
    have hbpl := blF_len s ws R ps
    have hbpv := blF_at s ws R ps
    have hnx := blF_at s ws R (ps ++ [kk])
    have hfp := hfit ps
    have hps64 : ps.length ≤ 64 := by
      have h1 : (finL (osl s.items).length (pcS s ws)).length = (pcS s ws).length := by rw [← List.length_map (f := Fin.val), finL_val]; exact pcTo_lt _ _ _
      omega
    have hm64 : ps.length * (L + 1) ≤ 64 * 1001 := Nat.mul_le_mul hps64 (by omega)
    obtain ⟨⟨wd1, wd2⟩, _⟩ := rt.item kk hk
    rw [itAt_in hk] at wd1 wd2
    have hwN : (wN s kk : Int) = (osl s.items)[kk].width := by unfold wN; rw [itAt_in hk]; omega
    have hqk : qAt ws kk = (osl ws)[kk].val := by unfold qAt; rw [rAt_in hkw]
    have hfk := hw.at kk
    rw [rAt_in hkw] at hfk
    have hsB : ∀ (l : List Bool) (k : Nat) (b : Bool), (encB fBo l).set k [Cell.c (.val (.bool b))] = encB fBo (l.set k b) := fun l k b => encB_set l k b
    obtain ⟨nb, hnb⟩ : ∃ nb, nb = stepB (wN s kk) (qAt ws kk) (bF s ws ps) := ⟨_, rfl⟩
    obtain ⟨nt, hnt⟩ : ∃ nt, nt = tkStep (wN s kk) (qAt ws kk) (bF s ws ps) := ⟨_, rfl⟩
    have hRb : (List.replicate (R + 1) false).length = R + 1 := List.length_replicate
    have hRm : ((R + 1 : Nat) : Int).toNat = R + 1 := by omega
    repeat (first | (with_reducible first | refine Way.imp ?_ | refine blk_o rfl ?_) | ((with_reducible refine WayR.imp (fun K hK => ?_)); simp (maxSteps := 2000000) (disch := first | omega | (simp only [dls]; omega)) only [std, reduceIte, reduceCtorEq, Int.reduceToNat, Nat.reduceAdd, Nat.reduceSub, Nat.reduceMul, Int.reduceAdd, Int.reduceSub, Int.reduceMul, Int.reduceNeg, fU, hbpl, repRk, repB, hRl, hRb, hRm]; subst hK))
    refine awp_loop (fun (zz : Nat × (List RR) × (List Bool)) => ⟨(.junk :: .junk :: .one (.ptr 0 0 0 0) :: .one (.ptr 1 0 0 0) :: .one (.ptr 2 0 0 0) :: aI 0 :: .junk :: .one (.ptr 4 0 0 0) :: .junk :: .one (.ptr 5 0 0 0) :: .one (.ptr 6 0 0 0) :: aI kk :: .one (.own 9 0) :: .one (.own 10 0) :: .junk :: .junk :: .junk :: .junk :: .junk :: .junk :: .junk :: .junk :: .junk :: .junk :: .junk :: .junk :: .junk :: .junk :: .junk :: .junk :: .junk :: .junk :: .junk :: .junk :: .junk :: .junk :: .junk :: .junk :: .junk :: .junk :: .junk :: .junk :: .junk :: .junk :: .junk :: .junk :: .junk :: .junk :: .junk :: .junk :: .junk :: .junk :: .junk :: .junk :: .junk :: .junk :: .junk :: .junk :: .junk :: .junk :: .junk :: .junk :: .junk :: .junk :: .junk :: .junk :: .junk :: .junk :: aI (R + 1 : Nat) :: aI zz.1 :: .junk :: .junk :: .junk :: .junk :: .junk :: .junk :: .junk :: .junk :: .junk :: .junk :: .junk :: .junk :: .junk :: .junk :: .junk :: .junk :: .junk :: .junk :: .junk :: .junk :: .junk :: .junk :: .junk :: .junk :: .junk :: .junk :: .junk :: .junk :: .junk :: .junk :: .junk :: .junk :: .junk :: .junk :: .junk :: .junk :: .junk :: .junk :: .junk :: .junk :: .junk :: .junk :: .junk :: .junk :: .junk :: .junk :: .junk :: .junk :: .junk :: .junk :: .junk :: .junk :: .junk :: .junk :: .junk :: .junk :: .junk :: .junk :: .junk :: .junk :: .junk :: .junk :: .junk :: .junk :: .junk :: .junk :: .junk :: .junk :: .junk :: .junk :: .junk :: .junk :: .junk :: .junk :: .junk :: .junk :: .junk :: .junk :: .junk :: .junk :: .junk :: .junk :: .junk :: .junk :: .junk :: .junk :: .junk :: .junk :: .junk :: .junk :: .junk :: .junk :: .junk :: .junk :: .junk :: .junk :: .junk :: .junk :: .junk :: .junk :: .junk :: .junk :: .junk :: .junk :: .junk :: []), [⟨0, 110, 2, [[.c (.val (.int .i64 s.roll)), .c (encSl 2 fItm s.items)]], true, true⟩, ⟨0, 22, 1, [[.c (vr ws)]], true, true⟩, ⟨0, 117, 4, [[.c (.val (.bool false)), .c (.val (.slice none 0 0)), .c (.val (.slice none 0 0)), .c (.val (.slice none 0 0))]], true, true⟩, ⟨0, 40, 3, encB fR bl, false, true⟩, ⟨0, 22, 1, [[.c (encSl 3 fR (some (blF s ws R ps)))]], true, true⟩, ⟨0, 69, 1, [[.own 7 ps.length]], true, true⟩, ⟨0, 167, 1, [[.own 8 ps.length]], true, true⟩, ⟨ps.length, 3, 1, encB fI (ps.map Int.ofNat), true, !ps.isEmpty⟩, ⟨ps.length, 170, 1, encB fBr (takeL (wN s) (qAt ws) (R + 1) ps), true, !ps.isEmpty⟩, ⟨0, 40, 3, encB fR zz.2.1, true, true⟩, ⟨0, 4, 1, encB fBo zz.2.2, true, true⟩]⟩) (fun (zz : Nat × (List RR) × (List Bool)) => zz.1 ≤ R + 1 ∧ zz.2.1 = fillL (fun v => rawQ (nb v)) zR (R + 1) zz.1 ∧ zz.2.2 = fillL nt false (R + 1) zz.1) (fun (zz : Nat × (List RR) × (List Bool)) => R + 1 - zz.1) (0, List.replicate (R + 1) zR, List.replicate (R + 1) false) ?hI3 (Fgt.head (show 9 ≤ 11 by decide) (false :: false :: true :: true :: true :: true :: false :: true :: false :: true :: true :: true :: true :: true :: false :: false :: false :: false :: false :: false :: false :: false :: false :: false :: false :: false :: false :: false :: false :: false :: false :: false :: false :: false :: false :: false :: false :: false :: false :: false :: false :: false :: false :: false :: false :: false :: false :: false :: false :: false :: false :: false :: false :: false :: false :: false :: false :: false :: false :: false :: false :: false :: false :: false :: false :: false :: false :: false :: true :: true :: []) ?hT3 ?hH3) ?hB3
    case hT3 => first | (simp (maxSteps := 2000000) (disch := omega) only [hds, liveT, cleanAV, cleanCell, clean1, cleanBlk, reduceIte, Int.reduceSub, Int.reduceAdd, Int.reduceNeg]; done) | rfl
    case hH3 => first | (simp (maxSteps := 2000000) (disch := omega) only [hds, liveT, cleanAV, cleanCell, clean1, cleanBlk, reduceIte, Int.reduceSub, Int.reduceAdd, Int.reduceNeg]; done) | rfl
    · dsimp only; exact ⟨Nat.zero_le _, rfl, rfl⟩
    rintro ⟨w, nx, tk⟩ ⟨hwR, hnxl, htkl⟩
    dsimp only at hwR hnxl htkl
    have hnl : nx.length = R + 1 := by rw [hnxl]; exact fillL_len _ _ _ hwR
    have htl : tk.length = R + 1 := by rw [htkl]; exact fillL_len _ _ _ hwR
    by_cases hwe : w = R + 1
    case neg =>
      have hwlt : w < R + 1 := by omega
      have hbw := hbpv w (by rw [hbpl]; exact hwlt)
      by_cases hw0 : w < wN s kk
      · have e1 : (w : Int) < (osl s.items)[kk].width := by omega
        have hnbw : nb w = bF s ws ps w := by rw [hnb]; unfold stepB; rw [if_neg (by omega)]
        have hntw : nt w = false := by rw [hnt]; unfold tkStep; exact decide_eq_false (by omega)
        repeat (first | (with_reducible first | refine Way.imp ?_ | refine blk_o rfl ?_) | ((with_reducible refine WayR.imp (fun K hK => ?_)); simp (maxSteps := 2000000) (disch := first | omega | (simp only [dls]; omega)) only [std, reduceIte, reduceCtorEq, Int.reduceToNat, Nat.reduceAdd, Nat.reduceSub, Nat.reduceMul, Int.reduceAdd, Int.reduceSub, Int.reduceMul, Int.reduceNeg, fU, fR, fItm, hbpl, hbw, hnl, hsetR]; subst hK))
        refine ⟨(w + 1, nx.set w (rawQ (bF s ws ps w)), tk), ?hI4, ?hM4, Fgt.head (show 9 ≤ 11 by decide) (false :: false :: true :: true :: true :: true :: false :: true :: false :: true :: true :: true :: true :: true :: false :: false :: false :: false :: false :: false :: false :: false :: false :: false :: false :: false :: false :: false :: false :: false :: false :: false :: false :: false :: false :: false :: false :: false :: false :: false :: false :: false :: false :: false :: false :: false :: false :: false :: false :: false :: false :: false :: false :: false :: false :: false :: false :: false :: false :: false :: false :: false :: false :: false :: false :: false :: false :: false :: true :: true :: []) ?hT4 ?hH4⟩
        case hT4 => first | (simp (maxSteps := 2000000) (disch := omega) only [hds, liveT, cleanAV, cleanCell, clean1, cleanBlk, reduceIte, Int.reduceSub, Int.reduceAdd, Int.reduceNeg]; done) | rfl
        case hH4 => first | (simp (maxSteps := 2000000) (disch := omega) only [hds, liveT, cleanAV, cleanCell, clean1, cleanBlk, reduceIte, Int.reduceSub, Int.reduceAdd, Int.reduceNeg]; done) | rfl
        · dsimp only
          exact ⟨hwlt, by rw [hnxl, ← hnbw]; exact fillL_set (fun v => rawQ (nb v)) zR hwlt, by rw [htkl]; exact fillL_skip nt false hwlt hntw⟩
        · dsimp only; omega
      · have e1 : ¬ ((w : Int) < (osl s.items)[kk].width) := by omega
        have e2 : ((w : Int) - (osl s.items)[kk].width).toNat = w - wN s kk := by omega
        have hbx := hbpv (w - wN s kk) (by rw [hbpl]; omega)
        have f1 := hfp w
        have f2 := hfp (w - wN s kk)
        have had := radd_C (rawQ (bF s ws ps (w - wN s kk))) (osl ws)[kk] (fits_rawQ (f2.mono (by omega))) (hfk.mono (by omega))
        rw [rawQ_val, ← hqk] at had
        have f3 : FitsQ (bF s ws ps (w - wN s kk) + qAt ws kk) (ps.length * (L + 1) + 1 + L + 1) := f2.add1 (by rw [hqk]; exact hfk.val hL)
        have hcm := rcompare_C (rawQ (bF s ws ps (w - wN s kk) + qAt ws kk)) (rawQ (bF s ws ps w)) (fits_rawQ (f3.mono (by omega))) (fits_rawQ (f1.mono (by omega)))
        rw [rawQ_val, rawQ_val] at hcm
        have hpos := cmpQ_pos (bF s ws ps (w - wN s kk) + qAt ws kk) (bF s ws ps w)
        generalize hcc : cmpQ (bF s ws ps (w - wN s kk) + qAt ws kk) (bF s ws ps w) = cc at hcm hpos
        by_cases hc0 : 0 < cc
        · have hlt := hpos.1 hc0
          have hnbw : nb w = bF s ws ps (w - wN s kk) + qAt ws kk := by rw [hnb]; unfold stepB; rw [if_pos ⟨by omega, hlt⟩]
          have hntw : nt w = true := by rw [hnt]; unfold tkStep; exact decide_eq_true ⟨by omega, hlt⟩
          repeat (first | (with_reducible first | refine Way.imp ?_ | refine blk_o rfl ?_) | ((with_reducible refine WayR.imp (fun K hK => ?_)); simp (maxSteps := 2000000) (disch := first | omega | (simp only [dls]; omega)) only [std, reduceIte, reduceCtorEq, Int.reduceToNat, Nat.reduceAdd, Nat.reduceSub, Nat.reduceMul, Int.reduceAdd, Int.reduceSub, Int.reduceMul, Int.reduceNeg, fU, fR, fBo, fItm, hbpl, hbw, hbx, hnl, htl, hsetR, hsB, e2, List.length_set]; subst hK) | refine zcA (had) rfl rfl rfl ?_ | refine zcA (hcm) rfl rfl rfl ?_)
          refine ⟨(w + 1, (nx.set w (rawQ (bF s ws ps w))).set w (rawQ (bF s ws ps (w - wN s kk) + qAt ws kk)), tk.set w true), ?hI5, ?hM5, Fgt.head (show 9 ≤ 11 by decide) (false :: false :: true :: true :: true :: true :: false :: true :: false :: true :: true :: true :: true :: true :: false :: false :: false :: false :: false :: false :: false :: false :: false :: false :: false :: false :: false :: false :: false :: false :: false :: false :: false :: false :: false :: false :: false :: false :: false :: false :: false :: false :: false :: false :: false :: false :: false :: false :: false :: false :: false :: false :: false :: false :: false :: false :: false :: false :: false :: false :: false :: false :: false :: false :: false :: false :: false :: false :: true :: true :: []) ?hT5 ?hH5⟩
          case hT5 => first | (simp (maxSteps := 2000000) (disch := omega) only [hds, liveT, cleanAV, cleanCell, clean1, cleanBlk, reduceIte, Int.reduceSub, Int.reduceAdd, Int.reduceNeg]; done) | rfl
          case hH5 => first | (simp (maxSteps := 2000000) (disch := omega) only [hds, liveT, cleanAV, cleanCell, clean1, cleanBlk, reduceIte, Int.reduceSub, Int.reduceAdd, Int.reduceNeg]; done) | rfl
          · dsimp only
            exact ⟨hwlt, by rw [List.set_set, hnxl, ← hnbw]; exact fillL_set (fun v => rawQ (nb v)) zR hwlt, by rw [htkl, ← hntw]; exact fillL_set nt false hwlt⟩
          · dsimp only; omega
        · have hnlt : ¬ bF s ws ps w < bF s ws ps (w - wN s kk) + qAt ws kk := fun h => hc0 (hpos.2 h)
          have hnbw : nb w = bF s ws ps w := by rw [hnb]; unfold stepB; rw [if_neg (fun h => hnlt h.2)]
          have hntw : nt w = false := by rw [hnt]; unfold tkStep; exact decide_eq_false (fun h => hnlt h.2)
          repeat (first | (with_reducible first | refine Way.imp ?_ | refine blk_o rfl ?_) | ((with_reducible refine WayR.imp (fun K hK => ?_)); simp (maxSteps := 2000000) (disch := first | omega | (simp only [dls]; omega)) only [std, reduceIte, reduceCtorEq, Int.reduceToNat, Nat.reduceAdd, Nat.reduceSub, Nat.reduceMul, Int.reduceAdd, Int.reduceSub, Int.reduceMul, Int.reduceNeg, fU, fR, fBo, fItm, hbpl, hbw, hbx, hnl, htl, hsetR, hsB, e2, List.length_set]; subst hK) | refine zcA (had) rfl rfl rfl ?_ | refine zcA (hcm) rfl rfl rfl ?_)
          refine ⟨(w + 1, nx.set w (rawQ (bF s ws ps w)), tk), ?hI6, ?hM6, Fgt.head (show 9 ≤ 11 by decide) (false :: false :: true :: true :: true :: true :: false :: true :: false :: true :: true :: true :: true :: true :: false :: false :: false :: false :: false :: false :: false :: false :: false :: false :: false :: false :: false :: false :: false :: false :: false :: false :: false :: false :: false :: false :: false :: false :: false :: false :: false :: false :: false :: false :: false :: false :: false :: false :: false :: false :: false :: false :: false :: false :: false :: false :: false :: false :: false :: false :: false :: false :: false :: false :: false :: false :: false :: false :: true :: true :: []) ?hT6 ?hH6⟩
          case hT6 => first | (simp (maxSteps := 2000000) (disch := omega) only [hds, liveT, cleanAV, cleanCell, clean1, cleanBlk, reduceIte, Int.reduceSub, Int.reduceAdd, Int.reduceNeg]; done) | rfl
          case hH6 => first | (simp (maxSteps := 2000000) (disch := omega) only [hds, liveT, cleanAV, cleanCell, clean1, cleanBlk, reduceIte, Int.reduceSub, Int.reduceAdd, Int.reduceNeg]; done) | rfl
          · dsimp only
            exact ⟨hwlt, by rw [hnxl, ← hnbw]; exact fillL_set (fun v => rawQ (nb v)) zR hwlt, by rw [htkl]; exact fillL_skip nt false hwlt hntw⟩
          · dsimp only; omega
    refine AWp.fgt ?_ (Fgt.close (i := 13) rfl (close_own3 (f := fBo) (l := tk) rfl (by decide)))
    rw [used_own3 (f := fBo) (l := tk) rfl, freeze_from]
    simp only [fzl, Nat.reduceBEq, Nat.reduceAdd, Bool.false_eq_true, if_true, if_false, reduceIte, List.set_cons_zero, List.set_cons_succ]
    refine AWp.fgt ?_ (Fgt.close (i := 12) rfl (close_own3 (f := fR) (l := nx) rfl (by decide)))
    rw [used_own3 (f := fR) (l := nx) rfl, freeze_from]
    simp only [fzl, Nat.reduceBEq, Nat.reduceAdd, Bool.false_eq_true, if_true, if_false, reduceIte, List.set_cons_zero, List.set_cons_succ]
    repeat (first | (with_reducible first | refine Way.imp ?_ | refine blk_o rfl ?_) | ((with_reducible refine WayR.imp (fun K hK => ?_)); simp (maxSteps := 2000000) (disch := first | omega | (simp only [dls]; omega)) only [std, reduceIte, reduceCtorEq, Int.reduceToNat, Nat.reduceAdd, Nat.reduceSub, Nat.reduceMul, Int.reduceAdd, Int.reduceSub, Int.reduceMul, Int.reduceNeg, fU, List.length_map, takeL_len]; subst hK))
    rw [hwe, fillL_full] at hnxl htkl
    have eI : encB fI (ps.map Int.ofNat) ++ [[Cell.c (.val (.int .i64 (kk : Int)))]] = encB fI ((ps ++ [kk]).map Int.ofNat) := by rw [List.map_append, ← encB_append]; rfl
    have eT : encB fBr (takeL (wN s) (qAt ws) (R + 1) ps) ++ [[Cell.c (encSl 1 fBo (some tk))]] = encB fBr (takeL (wN s) (qAt ws) (R + 1) (ps ++ [kk])) := by rw [takeL_snoc, ← encB_append, htkl, hnt]; rfl
    have eN : blF s ws R (ps ++ [kk]) = nx := by unfold blF bF; rw [hnxl, hnb, bestF_snoc]; rfl
    have eE : (!(ps ++ [kk]).isEmpty) = true := by cases ps <;> rfl
    rw [eI, eT]
    refine ⟨_, ⟨rfl, by rw [List.length_append, hps]; rfl⟩, _, Fgt.head (Nat.le_refl 9) [] rfl ?_⟩
    rw [eN, eE]
    simp (maxSteps := 2000000) (disch := omega) only [hds, liveT, cleanAV, cleanCell, clean1, cleanBlk, reduceIte, Int.reduceSub, Int.reduceAdd, Int.reduceNeg, List.isEmpty_cons, Bool.or_true, Bool.not_false, List.length_append, List.length_cons, List.length_nil, Nat.zero_add]
  · intro hps
    have hfold : ∀ (l : List (Fin (osl s.items).length)) (a : List Nat), l.foldl (fun ps k => ps ++ [k.1]) a = a ++ l.map Fin.val := by
      intro l
      induction l with
      | nil => intro a; simp
      | cons x l ih => intro a; rw [List.foldl_cons, ih, List.map_cons, List.append_assoc]; rfl
    have hfv : (finL (osl s.items).length (pcS s ws)).map Fin.val = pcS s ws := finL_val (pcTo_lt _ _ _)
    have hPlt : ∀ k ∈ pcS s ws, k < (osl s.items).length := pcTo_lt _ _ _
    rw [hfold, List.nil_append, hfv]
    unfold bestV takesV
    generalize pcS s ws = P at *
    have hbpl := blF_len s ws R P
    have hbpv := blF_at s ws R P R (by rw [hbpl]; omega)
    have hri : s.roll.toNat = R := by omega
    have hrI0 : List.replicate (osl s.items).length [Cell.c (.val (.int .i64 0))] = encB fI (List.replicate (osl s.items).length 0) := by rw [encB_replicate]; rfl
    repeat (first | (with_reducible first | refine Way.imp ?_ | refine blk_o rfl ?_) | ((with_reducible refine WayR.imp (fun K hK => ?_)); simp (maxSteps := 2000000) (disch := first | omega | (simp only [dls]; omega)) only [std, reduceIte, reduceCtorEq, Int.reduceToNat, Nat.reduceAdd, Nat.reduceSub, Nat.reduceMul, Int.reduceAdd, Int.reduceSub, Int.reduceMul, Int.reduceNeg, fU, fR, hbpl, hbpv, hri, hrI0, Int.toNat_natCast, List.length_map]; subst hK))
    refine awp_loop (fun (zz : Nat × Int × Int × (List Int)) => ⟨(.junk :: .junk :: .one (.ptr 0 0 0 0) :: .junk :: .one (.ptr 2 0 0 0) :: .junk :: .junk :: .junk :: .junk :: .one (.ptr 5 0 0 0) :: .one (.ptr 6 0 0 0) :: .junk :: .junk :: .junk :: .junk :: .junk :: .one (.ptr 9 1 0 0) :: aI zz.2.2.1 :: aI zz.2.1 :: .junk :: .junk :: .junk :: .junk :: .junk :: .junk :: .junk :: .junk :: .junk :: .junk :: .junk :: .junk :: .junk :: .junk :: .junk :: .junk :: .junk :: .junk :: .junk :: .junk :: .junk :: .junk :: .junk :: .junk :: .junk :: .junk :: .junk :: .junk :: .junk :: .junk :: .junk :: .junk :: .junk :: .junk :: .junk :: .junk :: .junk :: .junk :: .junk :: .junk :: .junk :: .junk :: .junk :: .junk :: .junk :: .junk :: .junk :: .junk :: .junk :: .junk :: .junk :: .junk :: .junk :: .junk :: .junk :: .junk :: .junk :: .junk :: .junk :: .junk :: .junk :: .junk :: .junk :: .junk :: .junk :: .junk :: .junk :: .junk :: .junk :: .junk :: .junk :: .junk :: .junk :: .junk :: .junk :: .junk :: .junk :: .junk :: .junk :: .junk :: .junk :: .junk :: .junk :: .junk :: .junk :: .junk :: .junk :: .junk :: .junk :: .junk :: .junk :: .junk :: .junk :: .junk :: .junk :: .junk :: .junk :: .junk :: .junk :: .junk :: .junk :: .junk :: .junk :: .junk :: .junk :: .junk :: .junk :: .junk :: .junk :: .junk :: .junk :: .junk :: .junk :: .junk :: .junk :: .junk :: .junk :: .junk :: .junk :: .junk :: .junk :: .junk :: .junk :: .junk :: .junk :: .junk :: .junk :: .junk :: .junk :: .junk :: .junk :: .junk :: .junk :: .junk :: .junk :: .junk :: .junk :: .junk :: .junk :: .junk :: .junk :: .junk :: .junk :: .junk :: .junk :: .junk :: .junk :: .junk :: .junk :: .junk :: .junk :: .junk :: .junk :: .junk :: .junk :: .junk :: []), [⟨0, 110, 2, [[.c (.val (.int .i64 s.roll)), .c (encSl 2 fItm s.items)]], true, true⟩, ⟨0, 22, 1, [[.c (vr ws)]], true, true⟩, ⟨0, 117, 4, [[.c (.val (.bool false)), .c (.val (.slice none 0 0)), .c (.val (.slice none 0 0)), .c (.val (.slice none 0 0))]], true, true⟩, ⟨0, 40, 3, encB fR bl, false, true⟩, ⟨0, 22, 1, [[.c (encSl 3 fR (some (blF s ws R P)))]], true, true⟩, ⟨0, 69, 1, [[.own 7 P.length]], true, true⟩, ⟨0, 167, 1, [[.own 8 P.length]], true, true⟩, ⟨P.length, 3, 1, encB fI (P.map Int.ofNat), true, !P.isEmpty⟩, ⟨P.length, 170, 1, encB fBr (takeL (wN s) (qAt ws) (R + 1) P), true, !P.isEmpty⟩, ⟨1, 117, 4, [[.c (.val (.bool (rawQ (bF s ws P R)).minus)), .c (nr (rawQ (bF s ws P R)).size), .c (nr (rawQ (bF s ws P R)).den), .own 10 0]], true, true⟩, ⟨0, 3, 1, encB fI zz.2.2.2, true, true⟩]⟩) (fun (zz : Nat × Int × Int × (List Int)) => zz.1 ≤ P.length ∧ zz.2.1 = (P.length : Int) - 1 - (zz.1 : Nat) ∧ zz.2.2.1 = ((backF (wN s) (qAt ws) P R zz.1).1 : Nat) ∧ zz.2.2.2 = cntL (osl s.items).length (backF (wN s) (qAt ws) P R zz.1).2) (fun (zz : Nat × Int × Int × (List Int)) => P.length - zz.1) (0, (P.length : Int) - 1, s.roll, List.replicate (osl s.items).length 0) ?hI7 (Fgt.head (Nat.zero_le 11) [false, false, true, false, true, false, false, false, false, true, true, false, false, false, false, false, true, true, true] ?hT7 ?hH7) ?hB7
    case hT7 => first | (simp (maxSteps := 2000000) (disch := omega) only [hds, liveT, cleanAV, cleanCell, clean1, cleanBlk, reduceIte, Int.reduceSub, Int.reduceAdd, Int.reduceNeg]; done) | rfl
    case hH7 => first | (simp (maxSteps := 2000000) (disch := omega) only [hds, liveT, cleanAV, cleanCell, clean1, cleanBlk, reduceIte, Int.reduceSub, Int.reduceAdd, Int.reduceNeg]; done) | rfl
    · dsimp only
      exact ⟨Nat.zero_le _, by omega, hR, (cntL_zero _).symm⟩
    rintro ⟨m, ii, wi, tl⟩ ⟨hm, hii, hwi, htl⟩
    dsimp only at hm hii hwi htl
    have hbl := backF_le (wN s) (qAt ws) P R m
    have hbs := backF_succ (wN s) (qAt ws) P R m
    have hcn := cntL_len (osl s.items).length (backF (wN s) (qAt ws) P R m).2
    rw [← htl] at hcn
    by_cases hme : m = P.length
    · repeat (first | (with_reducible first | refine Way.imp ?_ | refine blk_o rfl ?_) | ((with_reducible refine WayR.imp (fun K hK => ?_)); simp (maxSteps := 2000000) (disch := first | omega | (simp only [dls]; omega)) only [std, reduceIte, reduceCtorEq, Int.reduceToNat, Nat.reduceAdd, Nat.reduceSub, Nat.reduceMul, Int.reduceAdd, Int.reduceSub, Int.reduceMul, Int.reduceNeg, fU]; subst hK))
      refine ⟨_, rfl, ?_⟩
      rw [hme] at htl
      show closeRes _ (.tup [.agg [.c (.val (.bool (rawQ (bF s ws P R)).minus)), .c (nr (rawQ (bF s ws P R)).size), .c (nr (rawQ (bF s ws P R)).den), .own 10 0], .one (.c (.val (.int .i64 0)))]) = _
      rw [close_Ch rfl, htl, hri]
      rfl
    · have hmlt : m < P.length := by omega
      obtain ⟨ix, hix⟩ : ∃ ix, ix = P.length - 1 - m := ⟨_, rfl⟩
      have hixl : ix < P.length := by omega
      have eix : ii.toNat = ix := by omega
      obtain ⟨wc, hwc⟩ : ∃ wc, wc = (backF (wN s) (qAt ws) P R m).1 := ⟨_, rfl⟩
      rw [← hwc] at hwi hbl
      have ewc : wi.toNat = wc := by omega
      have hTL := takeL_len (wN s) (qAt ws) (R + 1) P
      obtain ⟨row, hrow⟩ : ∃ row, row = (List.range (R + 1)).map (takeF (wN s) (qAt ws) P ix) := ⟨_, rfl⟩
      have hrl : row.length = R + 1 := by rw [hrow, List.length_map, List.length_range]
      have hrw : ∀ h : wc < row.length, row[wc] = takeF (wN s) (qAt ws) P ix wc := fun h => by simp [hrow]
      have htr : ∀ h : ix < (takeL (wN s) (qAt ws) (R + 1) P).length, (takeL (wN s) (qAt ws) (R + 1) P)[ix] = row := fun h => by simp [takeL, hrow]
      have hPm : (P.map Int.ofNat).length = P.length := List.length_map ..
      have hPi : ∀ h : ix < (P.map Int.ofNat).length, (P.map Int.ofNat)[ix] = (P[ix] : Int) := fun h => by simp
      have hsI : ∀ (l : List Int) (k : Nat) (b : Int), (encB fI l).set k [Cell.c (.val (.int .i64 b))] = encB fI (l.set k b) := fun l k b => encB_set l k b
      obtain ⟨kk, hkk⟩ : ∃ kk, kk = P[ix] := ⟨_, rfl⟩
      rw [← hkk] at hPi
      have hkl : kk < (osl s.items).length := by rw [hkk]; exact hPlt _ (List.getElem_mem hixl)
      have hPg : P.getD ix 0 = kk := by rw [hkk, List.getD_eq_getElem?_getD, List.getElem?_eq_getElem hixl]; rfl
      have hta : ∀ h : kk < tl.length, tl[kk] = (((backF (wN s) (qAt ws) P R m).2 kk : Nat) : Int) := fun h => by simp only [htl]; exact cntL_at (by rw [← htl]; exact h)
      have hbc := backF_cnt (wN s) (qAt ws) P R m kk
      obtain ⟨⟨wd1, wd2⟩, _⟩ := rt.item kk hkl
      have hwN : (wN s kk : Int) = (itAt s kk).width := by unfold wN; omega
      rw [itAt_in hkl] at wd1 wd2 hwN
      rw [← hix] at hbs
      cases htk : takeF (wN s) (qAt ws) P ix wc with
      | true =>
        repeat (first | (with_reducible first | refine Way.imp ?_ | refine blk_o rfl ?_) | ((with_reducible refine WayR.imp (fun K hK => ?_)); simp (maxSteps := 2000000) (disch := first | omega | (simp only [dls]; omega)) only [std, reduceIte, reduceCtorEq, Int.reduceToNat, Nat.reduceAdd, Nat.reduceSub, Nat.reduceMul, Int.reduceAdd, Int.reduceSub, Int.reduceMul, Int.reduceNeg, fU, fBr, fBo, fI, fItm, eix, ewc, hTL, htr, hrl, hrw, htk, hPm, hPi, hcn, hta, hsI]; subst hK))
        rw [← hwc, htk, if_pos rfl, hPg] at hbs
        have hge : wN s kk ≤ wc := by
          have := htk
          unfold takeF tkStep at this
          rw [hPg] at this
          exact (of_decide_eq_true this).1
        refine ⟨(m + 1, ii - 1, wi - (osl s.items)[kk].width, tl.set kk ((((backF (wN s) (qAt ws) P R m).2 kk : Nat) : Int) + 1)), ?hI8, ?hM8, Fgt.head (Nat.zero_le 11) [false, false, true, false, true, false, false, false, false, true, true, false, false, false, false, false, true, true, true] ?hT8 ?hH8⟩
        case hT8 => first | (simp (maxSteps := 2000000) (disch := omega) only [hds, liveT, cleanAV, cleanCell, clean1, cleanBlk, reduceIte, Int.reduceSub, Int.reduceAdd, Int.reduceNeg]; done) | rfl
        case hH8 => first | (simp (maxSteps := 2000000) (disch := omega) only [hds, liveT, cleanAV, cleanCell, clean1, cleanBlk, reduceIte, Int.reduceSub, Int.reduceAdd, Int.reduceNeg]; done) | rfl
        · dsimp only
          refine ⟨hmlt, by omega, ?_, ?_⟩
          · rw [hbs]; dsimp only; omega
          · rw [hbs, htl]; exact cntL_set _ _ _
        · dsimp only; omega
      | false =>
        rw [← hwc, htk, if_neg (by simp)] at hbs
        repeat (first | (with_reducible first | refine Way.imp ?_ | refine blk_o rfl ?_) | ((with_reducible refine WayR.imp (fun K hK => ?_)); simp (maxSteps := 2000000) (disch := first | omega | (simp only [dls]; omega)) only [std, reduceIte, reduceCtorEq, Int.reduceToNat, Nat.reduceAdd, Nat.reduceSub, Nat.reduceMul, Int.reduceAdd, Int.reduceSub, Int.reduceMul, Int.reduceNeg, fU, fBr, fBo, fI, fItm, eix, ewc, hTL, htr, hrl, hrw, htk, hPm, hPi, hcn, hta, hsI]; subst hK))
        refine ⟨(m + 1, ii - 1, wi, tl), ?hI9, ?hM9, Fgt.head (Nat.zero_le 11) [false, false, true, false, true, false, false, false, false, true, true, false, false, false, false, false, true, true, true] ?hT9 ?hH9⟩
        case hT9 => first | (simp (maxSteps := 2000000) (disch := omega) only [hds, liveT, cleanAV, cleanCell, clean1, cleanBlk, reduceIte, Int.reduceSub, Int.reduceAdd, Int.reduceNeg]; done) | rfl
        case hH9 => first | (simp (maxSteps := 2000000) (disch := omega) only [hds, liveT, cleanAV, cleanCell, clean1, cleanBlk, reduceIte, Int.reduceSub, Int.reduceAdd, Int.reduceNeg]; done) | rfl
        · dsimp only
          refine ⟨hmlt, by omega, ?_, ?_⟩
          · rw [hbs, ← hwc]; exact hwi
          · rw [hbs]; exact htl
        · dsimp only; omega

end Go.Proofs.Ytdhkdnmefeeclaa
