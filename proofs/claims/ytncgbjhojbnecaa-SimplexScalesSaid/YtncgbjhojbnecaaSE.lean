/- Plain: two proved answers to one problem say the same. -/
import Derived.Test.YtncgbjhojbnecaaB0
import Derived.Test.YtncgbjhojbnecaaSC
set_option linter.unusedSimpArgs false
set_option linter.unusedVariables false
set_option linter.unnecessarySimpa false
set_option linter.unusedVariables false
set_option linter.unusedSimpArgs false
namespace Go.Off
theorem dual_sum (P : PF) (y x : List Rat) : sumR P.n (fun k => colY P y k * lF x k) = sumR P.m (fun i => lF y i * rowX P x i) := by
 have e1 : ∀ k, k < P.n -> colY P y k * lF x k = sumR P.m (fun i => lF y i * P.a i k * lF x k) := fun k _ => by
  unfold colY; rw [sumR_mul]
 rw [sumR_congr e1, sumR_comm]
 refine sumR_congr (fun i _ => ?_)
 unfold rowX
 rw [<- sumR_mull]
 exact sumR_congr (fun k _ => by rw [Rat.mul_assoc])
theorem sumR_le' {n : Nat} {f g : Nat -> Rat} (h : ∀ i, i < n -> f i <= g i) : sumR n f <= sumR n g := by
 have := sumR_nn' (f := fun i => g i - f i) (fun i hi => by have := h i hi; grind)
 rw [sumR_sub] at this
 grind
theorem weak {P : PF} {y x : List Rat} (hy : ∀ k, k < P.n -> colY P y k <= P.c k) (hx : Feas P x) : ybP P y <= cxP P x := by
 have h1 : sumR P.n (fun k => colY P y k * lF x k) <= cxP P x := sumR_le' (fun k hk => Rat.mul_le_mul_of_nonneg_right (hy k hk) (hx.2.1 k hk))
 rw [dual_sum] at h1
 have e : sumR P.m (fun i => lF y i * rowX P x i) = ybP P y := sumR_congr (fun i hi => by rw [hx.2.2 i hi])
 rw [e] at h1
 exact h1
theorem prov_le {P : PF} {r : SR} (h : Prov P r) (hv : r.v = 1) {x : List Rat} (hx : Feas P x) : cxP P r.X <= cxP P x := by
 rcases h with ⟨_, _, _, h4, h5, _⟩ | ⟨h1, _⟩ | ⟨h1, _⟩
 ·rw [<- h5]; exact weak h4 hx
 ·omega
 ·omega
theorem prov_no {P : PF} {r : SR} (h : Prov P r) (hv : r.v = 2) {x : List Rat} (hx : Feas P x) : False := by
 rcases h with ⟨h1, _⟩ | ⟨_, _, _, _, h4, h5⟩ | ⟨h1, _⟩
 ·omega
 ·have h6 : sumR P.n (fun k => colY P r.Y k * lF x k) <= 0 := sumR_np (fun k hk => by
   have := mul_np (hx.2.1 k hk) (h4 k hk)
   rw [Rat.mul_comm]; exact this)
  rw [dual_sum] at h6
  have e : sumR P.m (fun i => lF r.Y i * rowX P x i) = ybP P r.Y := sumR_congr (fun i hi => by rw [hx.2.2 i hi])
  rw [e] at h6
  exact absurd h5 (Rat.not_lt.2 h6)
 ·omega
theorem prov_feas {P : PF} {r : SR} (h : Prov P r) (hv : r.v ≠ 2) : Feas P r.X := by
 rcases h with ⟨_, h2, _⟩ | ⟨h1, _⟩ | ⟨_, _, h2, _⟩
 ·exact h2
 ·exact absurd h1 hv
 ·exact h2
theorem prov_v {P : PF} {r : SR} (h : Prov P r) : r.v = 1 \/ r.v = 2 \/ r.v = 3 := by
 rcases h with ⟨h1, _⟩ | ⟨h1, _⟩ | ⟨h1, _⟩
 ·exact .inl h1
 ·exact .inr (.inl h1)
 ·exact .inr (.inr h1)
def alongL (n : Nat) (x ray : List Rat) (t : Rat) : List Rat := (List.range n).map fun k => lF x k + lF ray k * t
theorem along_at {n k : Nat} (hk : k < n) (x ray : List Rat) (t : Rat) : lF (alongL n x ray t) k = lF x k + lF ray k * t := getD_mapR n _ k 0 hk
theorem along_feas {P : PF} {x ray : List Rat} {t : Rat} (hx : Feas P x) (h1 : ∀ k, k < P.n -> 0 <= lF ray k) (h2 : ∀ i, i < P.m -> rowX P ray i = 0) (ht : 0 <= t) : Feas P (alongL P.n x ray t) := by
 refine ⟨by unfold alongL; rw [List.length_map, List.length_range], fun k hk => ?_, fun i hi => ?_⟩
 ·rw [along_at hk]
  have := Rat.mul_nonneg (h1 k hk) ht
  have := hx.2.1 k hk
  grind
 ·rw [<- hx.2.2 i hi]
  have e : rowX P (alongL P.n x ray t) i = rowX P x i + rowX P ray i * t := by
   unfold rowX
   rw [<- sumR_lin]
   exact sumR_congr (fun k hk => by rw [along_at hk]; grind)
  rw [e, h2 i hi, Rat.zero_mul, Rat.add_zero]
theorem along_cost {P : PF} (x ray : List Rat) (t : Rat) : cxP P (alongL P.n x ray t) = cxP P x + cxP P ray * t := by
 unfold cxP
 rw [<- sumR_lin]
 exact sumR_congr (fun k hk => by rw [along_at hk]; grind)
theorem prov_not13 {P : PF} {r s : SR} (h : Prov P r) (g : Prov P s) (hr : r.v = 1) (hs : s.v = 3) : False := by
 rcases g with ⟨g1, _⟩ | ⟨g1, _⟩ | ⟨_, _, g3, g4, g5, g6, g7⟩
 ·omega
 ·omega
 ·obtain ⟨q, hq⟩ : ∃ q, q = -(cxP P s.Ray) := ⟨_, rfl⟩
  have q0 : 0 < q := by grind
  have l0 := prov_le h hr g3
  have t0 : 0 <= (cxP P s.X - cxP P r.X + 1) * q⁻¹ := Rat.mul_nonneg (by grind) (Rat.le_of_lt (inv_pos q0))
  have h1 := prov_le h hr (along_feas g3 g5 g6 t0)
  rw [along_cost] at h1
  have e : q * q⁻¹ = 1 := Rat.mul_inv_cancel _ (fun e => by rw [e] at q0; exact absurd q0 (by decide))
  have e2 : cxP P s.Ray = -q := by grind
  rw [e2] at h1
  have e3 : -q * ((cxP P s.X - cxP P r.X + 1) * q⁻¹) = -(cxP P s.X - cxP P r.X + 1) := by grind
  rw [e3] at h1
  grind
theorem prov_same {P : PF} {r s : SR} (h : Prov P r) (g : Prov P s) : r.v = s.v /\ (r.v = 1 -> cxP P r.X = cxP P s.X) := by
 have key : ∀ {r s : SR}, Prov P r -> Prov P s -> r.v = 1 -> s.v = 1 := fun {r s} h g hr => by
  rcases prov_v g with hs | hs | hs
  ·exact hs
  ·exact (prov_no g hs (prov_feas h (by omega))).elim
  ·exact (prov_not13 h g hr hs).elim
 have hv : r.v = s.v := by
  rcases prov_v h with hr | hr | hr
  ·rw [hr, key h g hr]
  ·rcases prov_v g with hs | hs | hs
   ·exact absurd (key g h hs) (by omega)
   ·omega
   ·exact (prov_no h hr (prov_feas g (by omega))).elim
  ·rcases prov_v g with hs | hs | hs
   ·exact absurd (key g h hs) (by omega)
   ·exact (prov_no g hs (prov_feas h (by omega))).elim
   ·omega
 refine ⟨hv, fun hr => ?_⟩
 have h1 := prov_le h hr (prov_feas g (by omega))
 have h2 := prov_le g (by omega) (prov_feas h (by omega))
 exact Rat.le_antisymm h1 h2
theorem prov_twice {P Q : PF} {q : Rat} (h0 : 0 < q) (hm : Q.m = P.m) (hn : Q.n = P.n) (ha : ∀ i k, i < P.m -> k < P.n -> Q.a i k = P.a i k * q) (hb : ∀ i, i < P.m -> Q.b i = P.b i * q) (hc : ∀ k, k < P.n -> Q.c k = P.c k * q) {s : SR} (h : Prov Q s) :
  Prov P s /\ ∀ x, cxP Q x = cxP P x * q := by
 have c1 : ∀ y k, k < P.n -> colY Q y k = colY P y k * q := fun y k hk => by
  unfold colY; rw [hm, <- sumR_mul]; exact sumR_congr (fun i hi => by rw [ha i k hi hk]; grind)
 have c2 : ∀ x i, i < P.m -> rowX Q x i = rowX P x i * q := fun x i hi => by
  unfold rowX; rw [hn, <- sumR_mul]; exact sumR_congr (fun k hk => by rw [ha i k hi hk]; grind)
 have c3 : ∀ y, ybP Q y = ybP P y * q := fun y => by
  unfold ybP; rw [hm, <- sumR_mul]; exact sumR_congr (fun i hi => by rw [hb i hi]; grind)
 have c4 : ∀ x, cxP Q x = cxP P x * q := fun x => by
  unfold cxP; rw [hn, <- sumR_mul]; exact sumR_congr (fun k hk => by rw [hc k hk]; grind)
 have e : q * q⁻¹ = 1 := Rat.mul_inv_cancel _ (fun e => by rw [e] at h0; exact absurd h0 (by decide))
 have can : ∀ {a b : Rat}, a * q = b * q -> a = b := fun {a b} h => by
  have h2 : a * q * q⁻¹ = b * q * q⁻¹ := by rw [h]
  grind
 have i0 := inv_pos h0
 have canl : ∀ {a b : Rat}, a * q <= b * q -> a <= b := fun {a b} h => by
  have h2 := Rat.mul_le_mul_of_nonneg_right h (Rat.le_of_lt i0)
  have e1 : a * q * q⁻¹ = a := by grind
  have e2 : b * q * q⁻¹ = b := by grind
  rw [e1, e2] at h2
  exact h2
 have canp : ∀ {a : Rat}, 0 < a * q -> 0 < a := fun {a} h => Rat.not_le.1 (fun hn => by
  have := mul_np (Rat.le_of_lt h0) hn
  rw [Rat.mul_comm] at this
  exact absurd h (Rat.not_lt.2 this))
 have cann : ∀ {a : Rat}, a * q < 0 -> a < 0 := fun {a} h => Rat.not_le.1 (fun hn => by
  have := Rat.mul_nonneg hn (Rat.le_of_lt h0)
  exact absurd h (Rat.not_lt.2 this))
 have hf : ∀ {x}, Feas Q x -> Feas P x := fun {x} hx => ⟨by rw [<- hn]; exact hx.1, fun k hk => hx.2.1 k (by omega), fun i hi => can (by rw [<- c2 x i hi, <- hb i hi]; exact hx.2.2 i (by omega))⟩
 refine ⟨?_, c4⟩
 rcases h with ⟨h1, h2, h3, h4, h5, h6⟩ | ⟨h1, h2, h3, h4, h5, h6⟩ | ⟨h1, h2, h3, h4, h5, h6, h7⟩
 ·exact .inl ⟨h1, hf h2, by omega, fun k hk => canl (by rw [<- c1 _ k hk, <- hc k hk]; exact h4 k (by omega)), can (by rw [<- c3, <- c4]; exact h5), h6⟩
 ·exact .inr (.inl ⟨h1, h2, h3, by omega, fun k hk => canl (by rw [<- c1 _ k hk, Rat.zero_mul]; exact h5 k (by omega)), canp (by rw [<- c3]; exact h6)⟩)
 ·exact .inr (.inr ⟨h1, h2, hf h3, by omega, fun k hk => h5 k (by omega), fun i hi => can (by rw [<- c2 _ i hi, Rat.zero_mul]; exact h6 i (by omega)), cann (by rw [<- c4]; exact h7)⟩)
end Go.Off
set_option linter.unusedSimpArgs false
set_option linter.unusedVariables false
set_option maxRecDepth 100000
set_option maxHeartbeats 4000000
namespace Go.Proofs.Ytncgbjhojbnecaa
open Go Go.Am Go.Proofs Go.RowKit Go.Off
open Nat renaming reduceAdd -> nA, reduceSub -> nS, reduceMul -> nM, reduceBEq -> nB
open Int renaming reduceToNat -> iT, reduceAdd -> iA, reduceSub -> iS, reduceMul -> iM, reduceNeg -> iN
theorem cx_dot {p : PB} {x : List Rat} (hx : x.length = (osl p.C).length) : dotV p.C (rowV x) = cxP (pfOf p) x := by
 rw [dot_sum]
 unfold vmin
 rw [len_rowV, hx, Nat.min_self]
 exact sumR_congr (fun i _ => by rw [qAt_rowV]; rfl)
theorem scale_V (v : VV) (q : Rat) : scaleQ v (rawQ q).val = scaleL (valsV v) q := by
 unfold scaleQ scaleL valsV
 rw [rawQ_val, List.map_map]
 rfl
def twA (p : PB) (i : Nat) : QM := (List.range i).map fun j => scaleL (valsV (mAt p.A j)) 2
theorem twA_succ (p : PB) (i : Nat) : twA p (i + 1) = twA p i ++ [scaleL (valsV (mAt p.A i)) 2] := by unfold twA; rw [List.range_succ, List.map_append]; rfl
theorem twA_len (p : PB) (i : Nat) : (twA p i).length = i := by unfold twA; rw [List.length_map, List.length_range]
def twP (p : PB) : PB := ⟨mL (twA p (osl p.A).length), rowV (scaleL (valsV p.B) 2), rowV (scaleL (valsV p.C) 2)⟩
theorem scaleL_len (l : List Rat) (q : Rat) : (scaleL l q).length = l.length := by unfold scaleL; rw [List.length_map]
theorem tw_Al (p : PB) : (osl (twP p).A).length = (osl p.A).length := by show (osl (mL _)).length = _; rw [len_mL, twA_len]
theorem tw_Bl (p : PB) : (osl (twP p).B).length = (osl p.B).length := by show (osl (rowV _)).length = _; rw [len_rowV, scaleL_len, vals_len]
theorem tw_Cl (p : PB) : (osl (twP p).C).length = (osl p.C).length := by show (osl (rowV _)).length = _; rw [len_rowV, scaleL_len, vals_len]
theorem tw_At (p : PB) {i : Nat} (h : i < (osl p.A).length) : mAt (twP p).A i = rowV (scaleL (valsV (mAt p.A i)) 2) := by
 show mAt (mL (twA p (osl p.A).length)) i = _
 rw [mAt_mL (by rw [twA_len]; exact h)]
 congr 1
 exact getD_mapR _ _ i [] h
theorem tw_right {p : PB} (h : rightB p = true) : rightB (twP p) = true := by
 obtain ⟨l1, l2, l3, l4⟩ := right_len h
 unfold rightB
 rw [tw_Al, tw_Bl, tw_Cl, decide_eq_true l1, decide_eq_true l2, decide_eq_true l3]
 have : anyI (rowBad (twP p)) (osl p.A).length = false := anyI_of (fun i hi => by
  unfold rowBad
  rw [tw_At p hi, len_rowV, scaleL_len, vals_len, tw_Cl, mAt_in hi, l4 i hi]
  simp)
 rw [this]; rfl
theorem tw_fits {v : VV} {n : Nat} (h : FitsV v n 3) : FitsV (rowV (scaleL (valsV v) 2)) n 5 := by
 refine fits_rowV (by rw [scaleL_len, vals_len]; exact h.1) (fun q hq => ?_)
 unfold scaleL at hq
 obtain ⟨x, hx, rfl⟩ := List.mem_map.1 hq
 exact (vals_fits h (by decide) x hx).mul (fits_int 2 (by decide) (by decide))
theorem tw_pfits {p : PB} (hf : FitsP p 8 3) (h4 : (osl p.A).length <= 4) (hr : rightB p = true) : PFits (twP p) 5 := by
 have f5 : ∀ m, m <= 4 -> 4 ^ m * (5 + 1) <= 4000000 /\ m * (4 ^ m * (5 + 1) + 5 + 1) <= 8989000 := by decide
 refine ⟨tw_right hr, ⟨by rw [tw_Al]; omega, fun v hv => ?_⟩, ?_, ?_, by decide, by decide, by rw [tw_Al]; exact (f5 _ h4).1, by rw [tw_Al]; exact (f5 _ h4).2⟩
 ·obtain ⟨i, hi, rfl⟩ := List.mem_iff_getElem.1 hv
  rw [tw_Al] at hi
  rw [<- mAt_in, tw_At p hi]
  have := tw_fits (hf.1.at i)
  exact ⟨by have := this.1; omega, this.2⟩
 ·have := tw_fits hf.2.1
  exact ⟨by have := this.1; exact Nat.le_trans this (by decide), this.2⟩
 ·exact (tw_fits hf.2.2).2
theorem tw_prov {p : PB} {s : SR} (h : Prov (pfOf (twP p)) s) : Prov (pfOf p) s /\ ∀ x, cxP (pfOf (twP p)) x = cxP (pfOf p) x * 2 := by
 have key : ∀ (v : VV) (i : Nat), qAt (rowV (scaleL (valsV v) 2)) i = qAt v i * 2 := fun v i => by
  rw [qAt_rowV, scaleL_get, vals_at]
 refine prov_twice (q := 2) (by decide) (tw_Al p) (tw_Cl p) (fun i k hi _ => ?_) (fun i _ => key p.B i) (fun k _ => key p.C k) h
 show qAt (mAt (twP p).A i) k = qAt (mAt p.A i) k * 2
 rw [tw_At p hi]
 exact key _ k
abbrev c4_k1 : CC := (.seq (.reg [⟨some 47,none,.load 3 true (.tmp 1)⟩,⟨some 48,none,.callf (.func 13) [(.tmp 47),(.const (.int .i64 (65536)))]⟩,⟨some 46,none,.mv (.tmp 48)⟩,⟨some 49,none,.ext (.tmp 46) 0⟩,⟨some 50,none,.ext (.tmp 46) 1⟩,⟨some 7,none,.new 30 [(.int .i64 (0)),(.slice none 0 0),(.slice none 0 0),(.slice none 0 0),(.slice none 0 0),(.int .i64 (0))]⟩,⟨none,none,.store 6 (.tmp 7) (.tmp 49)⟩,⟨some 8,none,.mv (.tmp 50)⟩]) (.seq (.reg [⟨some 52,none,.load 3 true (.tmp 4)⟩,⟨some 53,none,.callf (.func 13) [(.tmp 52),(.const (.int .i64 (65536)))]⟩,⟨some 51,none,.mv (.tmp 53)⟩,⟨some 54,none,.ext (.tmp 51) 0⟩,⟨some 55,none,.ext (.tmp 51) 1⟩,⟨some 9,none,.new 30 [(.int .i64 (0)),(.slice none 0 0),(.slice none 0 0),(.slice none 0 0),(.slice none 0 0),(.int .i64 (0))]⟩,⟨none,none,.store 6 (.tmp 9) (.tmp 54)⟩,⟨some 10,none,.mv (.tmp 55)⟩]) (.seq (.seq (.reg [⟨some 56,none,.mv (.tmp 8)⟩,⟨some 57,none,.bin .neq (.tmp 56) (.const (.int .i64 (0)))⟩,⟨some 58,none,.mv (.tmp 57)⟩,⟨some 59,(some (58,false)),.mv (.tmp 10)⟩,⟨some 60,(some (58,false)),.bin .neq (.tmp 59) (.const (.int .i64 (0)))⟩,⟨some 61,none,.pick (.tmp 58) (.const (.bool true)) (.tmp 60)⟩,⟨some 62,none,.mv (.tmp 61)⟩,⟨some 63,(some (62,false)),.faddr 0 (.tmp 7)⟩,⟨some 64,(some (62,false)),.load 1 false (.tmp 63)⟩,⟨some 65,(some (62,false)),.faddr 0 (.tmp 9)⟩,⟨some 66,(some (62,false)),.load 1 false (.tmp 65)⟩,⟨some 67,(some (62,false)),.bin .neq (.tmp 64) (.tmp 66)⟩,⟨some 68,none,.pick (.tmp 62) (.const (.bool true)) (.tmp 67)⟩]) (.cond (.tmp 68) (.seq (.reg [⟨some 2,none,.mv (.const (.bool false))⟩]) .ret) .skip)) (.seq (.reg [⟨some 69,none,.faddr 0 (.tmp 7)⟩,⟨some 70,none,.load 1 false (.tmp 69)⟩,⟨some 71,none,.bin .neq (.tmp 70) (.const (.int .i64 (1)))⟩,⟨some 72,none,.mv (.tmp 71)⟩,⟨some 73,(some (72,false)),.faddr 2 (.tmp 4)⟩,⟨some 74,(some (72,false)),.load 1 false (.tmp 73)⟩,⟨some 75,(some (72,false)),.faddr 1 (.tmp 9)⟩,⟨some 76,(some (72,false)),.load 1 false (.tmp 75)⟩,⟨some 77,(some (72,false)),.callf (.func 18) [(.tmp 74),(.tmp 76)]⟩,⟨some 78,(some (72,false)),.load 3 true (.tmp 3)⟩,⟨some 79,(some (72,false)),.faddr 2 (.tmp 1)⟩,⟨some 80,(some (72,false)),.load 1 false (.tmp 79)⟩,⟨some 81,(some (72,false)),.faddr 1 (.tmp 7)⟩,⟨some 82,(some (72,false)),.load 1 false (.tmp 81)⟩,⟨some 83,(some (72,false)),.callf (.func 18) [(.tmp 80),(.tmp 82)]⟩,⟨some 84,(some (72,false)),.callf (.func 19) [(.tmp 78),(.tmp 83)]⟩,⟨some 85,(some (72,false)),.callf (.func 17) [(.tmp 77),(.tmp 84)]⟩,⟨some 86,(some (72,false)),.bin .eql (.tmp 85) (.const (.int .i64 (0)))⟩,⟨some 87,none,.pick (.tmp 72) (.const (.bool true)) (.tmp 86)⟩,⟨some 88,none,.mv (.tmp 87)⟩,⟨some 89,(some (88,true)),.callf (.func 12) []⟩,⟨some 90,none,.pick (.tmp 88) (.tmp 89) (.const (.bool false))⟩,⟨some 2,none,.mv (.tmp 90)⟩]) .ret))))
abbrev c4_b1 : CC := (.seq (.reg [⟨some 34,none,.bin .lss (.tmp 33) (.tmp 32)⟩]) (.seq (.cond (.tmp 34) .skip (.exit 0)) (.seq (.block 1 (.seq (.reg [⟨some 35,none,.iaddr 1 none (.tmp 31) (.tmp 33)⟩,⟨some 36,none,.load 1 false (.tmp 35)⟩,⟨some 6,none,.mv (.tmp 36)⟩]) (.reg [⟨some 37,none,.faddr 0 (.tmp 4)⟩,⟨some 38,none,.load 1 false (.tmp 37)⟩,⟨some 39,none,.mv (.tmp 6)⟩,⟨some 40,none,.load 3 true (.tmp 3)⟩,⟨some 41,none,.callf (.func 16) [(.tmp 39),(.tmp 40)]⟩,⟨some 42,none,.mkrow 23 1 [(.tmp 41)]⟩,⟨some 43,none,.append 23 1 24 (.tmp 38) (.tmp 42)⟩,⟨some 44,none,.faddr 0 (.tmp 4)⟩,⟨none,none,.store 1 (.tmp 44) (.tmp 43)⟩]))) (.reg [⟨some 45,none,.bin .add (.tmp 33) (.const (.int .i64 (1)))⟩,⟨some 33,none,.mv (.tmp 45)⟩]))))
abbrev c4 : CC := (.seq (.reg [⟨some 1,none,.box 25 (.tmp 0)⟩,⟨some 2,none,.mv (.const (.bool false))⟩]) (.seq (.seq (.reg [⟨some 11,none,.load 3 true (.tmp 1)⟩,⟨some 12,none,.callf (.func 10) [(.tmp 11)]⟩,⟨some 13,none,.un .not (.tmp 12)⟩,⟨some 14,none,.mv (.tmp 13)⟩,⟨some 15,(some (14,false)),.load 3 true (.tmp 1)⟩,⟨some 16,(some (14,false)),.callf (.func 11) [(.tmp 15)]⟩,⟨some 17,(some (14,false)),.un .not (.tmp 16)⟩,⟨some 18,none,.pick (.tmp 14) (.const (.bool true)) (.tmp 17)⟩]) (.cond (.tmp 18) (.seq (.reg [⟨some 19,none,.callf (.func 12) []⟩,⟨some 2,none,.mv (.tmp 19)⟩]) .ret) .skip)) (.seq (.reg [⟨some 20,none,.callf (.func 15) [(.const (.int .i64 (2)))]⟩,⟨some 3,none,.new 41 [(.bool false),(.slice none 0 0),(.slice none 0 0)]⟩,⟨none,none,.store 3 (.tmp 3) (.tmp 20)⟩]) (.seq (.regn true [⟨some 21,none,.faddr 1 (.tmp 1)⟩,⟨some 22,none,.load 1 false (.tmp 21)⟩,⟨some 23,none,.load 3 true (.tmp 3)⟩,⟨some 24,none,.callf (.func 16) [(.tmp 22),(.tmp 23)]⟩,⟨some 25,none,.faddr 2 (.tmp 1)⟩,⟨some 26,none,.load 1 false (.tmp 25)⟩,⟨some 27,none,.load 3 true (.tmp 3)⟩,⟨some 28,none,.callf (.func 16) [(.tmp 26),(.tmp 27)]⟩,⟨some 29,none,.build [(.slice none 0 0),(.slice none 0 0),(.slice none 0 0)] [(1,(1,(.tmp 24))),(2,(1,(.tmp 28)))]⟩,⟨some 4,none,.fill 25 [(.slice none 0 0),(.slice none 0 0),(.slice none 0 0)]⟩,⟨none,none,.store 3 (.tmp 4) (.tmp 29)⟩]) (.seq (.seq (.reg [⟨some 30,none,.faddr 0 (.tmp 1)⟩,⟨some 31,none,.load 1 false (.tmp 30)⟩,⟨some 32,none,.len false (.tmp 31)⟩,⟨some 33,none,.mv (.const (.int .i64 (0)))⟩]) (.block 0 (.loop c4_b1))) c4_k1)))))
theorem cc4 : ccode Try.prog [] (Try.f4.body.getD .skip) = some c4 := by kernel_rfl
theorem body4 : Try.f4.body = some (Try.f4.body.getD .skip) := rfl
theorem simplexScales_C (p : PB) : PureC Try.prog 4 [aP p] (.ret (aB true)) := by
 have hw := awake12_C
 have hf := fewP_C p
 cases c1 : fewP p with
 | false =>
  rw [c1] at hf
  refine pureC_of (rs := [(RV.tmp 2)]) Try.func4 (fun a w => Try.call4 a w) body4 cc4 (by kernel_rfl) ?_
  rw [Try.ntmps4]
  simp only [frs, nA, nS]
  repeat (first | (with_reducible first | refine Way.imp ?_ | refine blk_o rfl ?_) | ((with_reducible refine WayR.imp (fun K hK => ?_)); simp (disch := first | omega | (simp only [dls]; omega)) only [std, reduceIte, reduceCtorEq, iT, nA, nS, nM, iA, iS, iM, iN, fU]; subst hK) | refine zcA (hf) rfl rfl rfl ?_ | refine zcA (hw) rfl rfl rfl ?_)
  exact ⟨_, rfl, rfl⟩
 | true =>
 rw [c1] at hf
 have hr := sright_C p
 cases c2 : rightB p with
 | false =>
  rw [c2] at hr
  refine pureC_of (rs := [(RV.tmp 2)]) Try.func4 (fun a w => Try.call4 a w) body4 cc4 (by kernel_rfl) ?_
  rw [Try.ntmps4]
  simp only [frs, nA, nS]
  repeat (first | (with_reducible first | refine Way.imp ?_ | refine blk_o rfl ?_) | ((with_reducible refine WayR.imp (fun K hK => ?_)); simp (disch := first | omega | (simp only [dls]; omega)) only [std, reduceIte, reduceCtorEq, iT, nA, nS, nM, iA, iS, iM, iN, fU]; subst hK) | refine zcA (hf) rfl rfl rfl ?_ | (apply call_any_g (hr) rfl; (case hg => simp (disch := first | omega | (simp only [dls]; omega)) only [std, reduceIte, reduceCtorEq, iT, nA, nS, nM, iA, iS, iM, iN, fU]); (case hcl => (simp only [evs, St.ev, constAV, evl]; (repeat (first | exact closeAVs_nil | (apply closeAVs_cons; (first | (refine close_own3 rfl (by decide)) | (refine close_ownO rfl (by decide) ?_; assumption) | rfl)))); done)); (case hu => rfl)) | refine zcA (hw) rfl rfl rfl ?_)
  exact ⟨_, rfl, rfl⟩
 | true =>
 rw [c2] at hr
 obtain ⟨fp, f4⟩ := fewP_fits c1
 have hC8 : (osl p.C).length <= 8 := fp.2.2.1
 have h2 := rint_C 2 (by omega) (by omega)
 rw [show ((2 : Int) : Rat) = 2 from rfl] at h2
 have q2 : Fits (rawQ 2) 3 := fits_rawQ ((fits_int 2 (by decide) (by decide)).mono (by decide))
 have hsB := vscale_R p.B (rawQ 2) 8 3 fp.2.1 q2 (by decide) (by decide) (by decide)
 have hsC := vscale_R p.C (rawQ 2) 8 3 fp.2.2 q2 (by decide) (by decide) (by decide)
 rw [scale_V] at hsB hsC
 change PureC _ _ _ (.ret (aV (rowV (scaleL (valsV p.B) 2)))) at hsB
 change PureC _ _ _ (.ret (aV (rowV (scaleL (valsV p.C) 2)))) at hsC
 have hrow : ∀ i (hi : i < (osl p.A).length), PureC Try.prog 16 [aV (osl p.A)[i], aR (rawQ 2)] (.ret (aV (rowV (scaleL (valsV (osl p.A)[i]) 2)))) := fun i hi => by
  have := vscale_R (osl p.A)[i] (rawQ 2) 8 3 (fp.1.2 _ (List.getElem_mem hi)) q2 (by decide) (by decide) (by decide)
  rw [scale_V] at this
  exact this
 obtain ⟨r, T, ht⟩ := told p 3 (pfits_few c1 c2)
 obtain ⟨s, U, hs⟩ := told (twP p) 5 (tw_pfits fp f4 c2)
 have hT := steps_few f4 hC8 ht.steps
 have hU := steps_few (p := twP p) (by rw [tw_Al]; exact f4) (by rw [tw_Cl]; exact hC8) hs.steps
 obtain ⟨g1, g2⟩ := tw_prov hs.prov
 obtain ⟨g3, g4⟩ := prov_same ht.prov g1
 have cr := ht.call 65536 (by decide) (by decide)
 have cs := hs.call 65536 (by decide) (by decide)
 rw [if_pos (by omega)] at cr cs
 have k4 : ∀ m, m <= 4 -> 4 ^ m * (3 + 1) <= 1024 /\ 4 ^ m * (5 + 1) <= 1536 /\ 1 <= 4 ^ m := by decide
 obtain ⟨k1, k2, k3⟩ := k4 _ f4
 have lr : r.v = 1 -> r.X.length = (osl p.C).length := fun h => (prov_feas ht.prov (by omega)).1
 have ls : r.v = 1 -> s.X.length = (osl p.C).length := fun h => (prov_feas g1 (by omega)).1
 have vr1 : r.v = 1 -> FitsV (rowV r.X) 8 1024 := fun h => fits_rowV (by have := lr h; omega) (fun q hq => (ht.fx q hq).mono k1)
 have vs1 : r.v = 1 -> FitsV (rowV s.X) 8 1536 := fun h => fits_rowV (by have := ls h; omega) (fun q hq => (hs.fx q hq).mono (by rw [tw_Al]; exact k2))
 have vC2 : FitsV (rowV (scaleL (valsV p.C) 2)) 8 5 := tw_fits fp.2.2
 have hd1 := fun h => dot_W (rowV (scaleL (valsV p.C) 2)) (rowV s.X) 8 5 1536 vC2 (vs1 h) (by decide) (by decide) (by decide) (by decide) (by decide) (by decide) (by decide)
 have hd2 := fun h => dot_W p.C (rowV r.X) 8 3 1024 fp.2.2 (vr1 h) (by decide) (by decide) (by decide) (by decide) (by decide) (by decide) (by decide)
 have hf1 := fun h => fits_dotW vC2 (vs1 h) (by decide) (by decide)
 have hf2 := fun h => fits_dotW fp.2.2 (vr1 h) (by decide) (by decide)
 have e1 : r.v = 1 -> dotV (rowV (scaleL (valsV p.C) 2)) (rowV s.X) = cxP (pfOf p) r.X * 2 := fun h => by
  have := cx_dot (p := twP p) (x := s.X) (by rw [tw_Cl]; exact ls h)
  rw [g2, <- g4 h] at this
  exact this
 have e2 : r.v = 1 -> dotV p.C (rowV r.X) = cxP (pfOf p) r.X := fun h => cx_dot (lr h)
 have eP : [Cell.c (encSl 1 fM (mL (twA p (osl p.A).length))), .c (vr (rowV (scaleL (valsV p.B) 2))), .c (vr (rowV (scaleL (valsV p.C) 2)))] = [Cell.c (encSl 1 fM (twP p).A), .c (vr (twP p).B), .c (vr (twP p).C)] := rfl
 clear ht hs g1 g2 g4
 unfold srV srC at cr cs
 rw [<- g3] at cs
 generalize hrv : r.v = rv at *
 generalize encSl 1 fI (rowO (intsN r.bs)) = cb at *
 generalize encSl 1 fI (rowO (intsN s.bs)) = db at *
 refine pureC_of (rs := [(RV.tmp 2)]) Try.func4 (fun a w => Try.call4 a w) body4 cc4 (by kernel_rfl) ?_
 rw [Try.ntmps4]
 simp only [frs, nA, nS]
 repeat (first | (with_reducible first | refine Way.imp ?_ | refine blk_o rfl ?_) | ((with_reducible refine WayR.imp (fun K hK => ?_)); simp (disch := first | omega | (simp only [dls]; omega)) only [std, reduceIte, reduceCtorEq, iT, nA, nS, nM, iA, iS, iM, iN, fU, fR]; subst hK) | refine zcA (hf) rfl rfl rfl ?_ | (apply call_any_g (hr) rfl; (case hg => simp (disch := first | omega | (simp only [dls]; omega)) only [std, reduceIte, reduceCtorEq, iT, nA, nS, nM, iA, iS, iM, iN, fU, fR]); (case hcl => (simp only [evs, St.ev, constAV, evl]; (repeat (first | exact closeAVs_nil | (apply closeAVs_cons; (first | (refine close_own3 rfl (by decide)) | (refine close_ownO rfl (by decide) ?_; assumption) | rfl)))); done)); (case hu => rfl)) | refine zcA (hw) rfl rfl rfl ?_ | refine zcA (h2) rfl rfl rfl ?_ | refine zcA (hsB) rfl rfl rfl ?_ | refine zcA (hsC) rfl rfl rfl ?_)
 refine AWp.fgt ?_ (Fgt.phantom _ 23 1)
 refine AWp.fgt ?_ (Fgt.cellsOpen (b := 2) (els' := [[.own 3 0, .c (vr (rowV (scaleL (valsV p.B) 2))), .c (vr (rowV (scaleL (valsV p.C) 2)))]]) rfl (.cons (.cons (.inr ⟨rfl, 3, _, rfl, rfl, rfl⟩) (.cons (.inl rfl) (.cons (.inl rfl) .nil))) .nil))
 simp only [List.cons_append, List.nil_append, List.set_cons_succ, List.set_cons_zero]
 refine awp_loop (fun (zz : Nat × (List VV) × Bool) => ⟨(.junk :: .one (.ptr 0 0 0 0) :: .junk :: .one (.ptr 1 0 0 0) :: .one (.ptr 2 1 0 0) :: .junk :: .junk :: .junk :: .junk :: .junk :: .junk :: .junk :: .junk :: .junk :: .junk :: .junk :: .junk :: .junk :: .junk :: .junk :: .junk :: .junk :: .junk :: .junk :: .junk :: .junk :: .junk :: .junk :: .junk :: .junk :: .junk :: aM p.A :: aI (osl p.A).length :: aI zz.1 :: .junk :: .junk :: .junk :: .junk :: .junk :: .junk :: .junk :: .junk :: .junk :: .junk :: .junk :: .junk :: .junk :: .junk :: .junk :: .junk :: .junk :: .junk :: .junk :: .junk :: .junk :: .junk :: .junk :: .junk :: .junk :: .junk :: .junk :: .junk :: .junk :: .junk :: .junk :: .junk :: .junk :: .junk :: .junk :: .junk :: .junk :: .junk :: .junk :: .junk :: .junk :: .junk :: .junk :: .junk :: .junk :: .junk :: .junk :: .junk :: .junk :: .junk :: .junk :: .junk :: .junk :: .junk :: .junk :: .junk :: .junk :: []), [⟨0, 25, 3, [[.c (encSl 1 fM p.A), .c (vr p.B), .c (vr p.C)]], true, true⟩, ⟨0, 41, 3, [[.c (.val (.bool (rawQ 2).minus)), .c (nr (rawQ 2).size), .c (nr (rawQ 2).den)]], true, true⟩, ⟨1, 25, 3, [[.own 3 zz.1, .c (vr (rowV (scaleL (valsV p.B) 2))), .c (vr (rowV (scaleL (valsV p.C) 2)))]], true, true⟩, ⟨zz.1, 23, 1, encB fM zz.2.1, true, zz.2.2⟩]⟩) (fun (zz : Nat × (List VV) × Bool) => zz.1 <= (osl p.A).length /\ zz.2.1 = (twA p zz.1).map rowV /\ zz.2.2 = !zz.2.1.isEmpty) (fun (zz : Nat × (List VV) × Bool) => (osl p.A).length - zz.1) (0, [], false) ?hI1 (Fgt.head (Nat.zero_le 4) (false :: true :: false :: true :: true :: false :: false :: false :: false :: false :: false :: false :: false :: false :: false :: false :: false :: false :: false :: false :: false :: false :: false :: false :: false :: false :: false :: false :: false :: false :: false :: true :: true :: true :: []) ?hT1 ?hH1) ?hB1
 case hT1 => first | (simp (disch := omega) only [hds, liveT, cleanAV, cleanCell, clean1, cleanBlk_mk, reduceIte, iS, iA, iN, encB_nil]; done) | rfl
 case hH1 => first | (simp (disch := omega) only [hds, liveT, cleanAV, cleanCell, clean1, cleanBlk_mk, reduceIte, iS, iA, iN, encB_nil]; done) | rfl
 ·dsimp only; exact ⟨Nat.zero_le _, rfl, rfl⟩
 rintro ⟨i, out, nn⟩ ⟨hi, ho, hnn⟩
 dsimp only at hi ho hnn
 by_cases him : i = (osl p.A).length
 ·refine AWp.fgt ?_ (Fgt.cells (b := 2) (els' := [[.c (encSl 1 fM (rowO out)), .c (vr (rowV (scaleL (valsV p.B) 2))), .c (vr (rowV (scaleL (valsV p.C) 2)))]]) [3] rfl rfl (.cons (.cons ((clo_ownO (c := 3) rfl (by decide) hnn (by simp)).2 0 _ _ rfl rfl) (.cons (.inl rfl) (.cons (.inl rfl) .nil))) .nil))
  rw [freeze_from]
  simp only [List.set_cons_succ, List.set_cons_zero, fzl, freezeFrom_keep, nB, nA, Bool.false_eq_true, if_true, if_false, reduceIte]
  refine AWp.fgt ?hA2 (Fgt.head (t' := (.junk :: .one (.ptr 0 0 0 0) :: .junk :: .one (.ptr 1 0 0 0) :: .one (.ptr 2 1 0 0) :: .junk :: .junk :: .junk :: .junk :: .junk :: .junk :: .junk :: .junk :: .junk :: .junk :: .junk :: .junk :: .junk :: .junk :: .junk :: .junk :: .junk :: .junk :: .junk :: .junk :: .junk :: .junk :: .junk :: .junk :: .junk :: .junk :: aM p.A :: aI (osl p.A).length :: aI i :: .junk :: .junk :: .junk :: .junk :: .junk :: .junk :: .junk :: .junk :: .junk :: .junk :: .junk :: .junk :: .junk :: .junk :: .junk :: .junk :: .junk :: .junk :: .junk :: .junk :: .junk :: .junk :: .junk :: .junk :: .junk :: .junk :: .junk :: .junk :: .junk :: .junk :: .junk :: .junk :: .junk :: .junk :: .junk :: .junk :: .junk :: .junk :: .junk :: .junk :: .junk :: .junk :: .junk :: .junk :: .junk :: .junk :: .junk :: .junk :: .junk :: .junk :: .junk :: .junk :: .junk :: .junk :: .junk :: .junk :: .junk :: [])) (h' := [⟨0, 25, 3, [[.c (encSl 1 fM p.A), .c (vr p.B), .c (vr p.C)]], true, true⟩, ⟨0, 41, 3, [[.c (.val (.bool (rawQ 2).minus)), .c (nr (rawQ 2).size), .c (nr (rawQ 2).den)]], true, true⟩, ⟨1, 25, 3, [[.c (encSl 1 fM (rowO out)), .c (vr (rowV (scaleL (valsV p.B) 2))), .c (vr (rowV (scaleL (valsV p.C) 2)))]], true, true⟩]) (show _ <= 3 from Nat.le_of_ble_eq_true rfl) (false :: true :: false :: true :: true :: false :: false :: false :: false :: false :: false :: false :: false :: false :: false :: false :: false :: false :: false :: false :: false :: false :: false :: false :: false :: false :: false :: false :: false :: false :: false :: true :: true :: true :: []) ?hT2 ?hH2)
  case hT2 => first | (simp (disch := omega) only [hds, liveT, cleanAV, cleanCell, clean1, cleanBlk_mk, reduceIte, iS, iA, iN]; done) | rfl
  case hH2 => first | (simp (disch := omega) only [hds, liveT, cleanAV, cleanCell, clean1, cleanBlk_mk, reduceIte, iS, iA, iN]; done) | rfl
  have hout : rowO out = mL (twA p (osl p.A).length) := by rw [ho, him]; rfl
  rw [hout]
  by_cases hv : rv = 1
  ·have d1 := hd1 hv
   have d2 := hd2 hv
   have m1 := hf1 hv
   have m2 := hf2 hv
   rw [e1 hv] at d1 m1
   rw [e2 hv] at d2 m2
   generalize cxP (pfOf p) r.X = z at d1 d2 m1 m2
   have hmu := rmul_C (rawQ 2) (rawQ z) (fits_rawQ ((fits_int 2 (by decide) (by decide)).mono (by decide))) (fits_rawQ (m2.mono (by decide)))
   rw [rawQ_val, rawQ_val, show (2 : Rat) * z = z * 2 from Rat.mul_comm _ _] at hmu
   have hcm := rcompare_C (rawQ (z * 2)) (rawQ (z * 2)) (fits_rawQ (m1.mono (by decide))) (fits_rawQ (m1.mono (by decide)))
   have hc0 : cmpQ (rawQ (z * 2)).val (rawQ (z * 2)).val = 0 := by
    have h1 : ¬ 0 < cmpQ (rawQ (z * 2)).val (rawQ (z * 2)).val := fun h => absurd ((cmpQ_pos _ _).1 h) (Rat.not_lt.2 Rat.le_refl)
    have h2 : ¬ cmpQ (rawQ (z * 2)).val (rawQ (z * 2)).val < 0 := fun h => absurd ((cmpQ_neg _ _).1 h) (Rat.not_lt.2 Rat.le_refl)
    omega
   rw [hc0] at hcm
   subst hv
   repeat (first | (with_reducible first | refine Way.imp ?_ | refine blk_o rfl ?_) | ((with_reducible refine WayR.imp (fun K hK => ?_)); simp (disch := first | omega | (simp only [dls]; omega)) only [std, reduceIte, reduceCtorEq, iT, nA, nS, nM, iA, iS, iM, iN, fU, fR]; subst hK) | refine zcA (cr) rfl rfl rfl ?_ | refine zcA (cs) rfl rfl rfl ?_ | (apply call_any_g (d1) rfl; (case hg => simp (disch := first | omega | (simp only [dls]; omega)) only [std, reduceIte, reduceCtorEq, iT, nA, nS, nM, iA, iS, iM, iN, fU, fR]); (case hcl => (simp only [evs, St.ev, constAV, evl]; (repeat (first | exact closeAVs_nil | (apply closeAVs_cons; (first | (refine close_own3 rfl (by decide)) | (refine close_ownO rfl (by decide) ?_; assumption) | rfl)))); done)); (case hu => rfl)) | (apply call_any_g (d2) rfl; (case hg => simp (disch := first | omega | (simp only [dls]; omega)) only [std, reduceIte, reduceCtorEq, iT, nA, nS, nM, iA, iS, iM, iN, fU, fR]); (case hcl => (simp only [evs, St.ev, constAV, evl]; (repeat (first | exact closeAVs_nil | (apply closeAVs_cons; (first | (refine close_own3 rfl (by decide)) | (refine close_ownO rfl (by decide) ?_; assumption) | rfl)))); done)); (case hu => rfl)) | (apply call_any_g (hmu) rfl; (case hg => simp (disch := first | omega | (simp only [dls]; omega)) only [std, reduceIte, reduceCtorEq, iT, nA, nS, nM, iA, iS, iM, iN, fU, fR]); (case hcl => (simp only [evs, St.ev, constAV, evl]; (repeat (first | exact closeAVs_nil | (apply closeAVs_cons; (first | (refine close_own3 rfl (by decide)) | (refine close_ownO rfl (by decide) ?_; assumption) | rfl)))); done)); (case hu => rfl)) | (apply call_any_g (hcm) rfl; (case hg => simp (disch := first | omega | (simp only [dls]; omega)) only [std, reduceIte, reduceCtorEq, iT, nA, nS, nM, iA, iS, iM, iN, fU, fR]); (case hcl => (simp only [evs, St.ev, constAV, evl]; (repeat (first | exact closeAVs_nil | (apply closeAVs_cons; (first | (refine close_own3 rfl (by decide)) | (refine close_ownO rfl (by decide) ?_; assumption) | rfl)))); done)); (case hu => rfl)) | (apply call_any_g (hw) rfl; (case hg => simp (disch := first | omega | (simp only [dls]; omega)) only [std, reduceIte, reduceCtorEq, iT, nA, nS, nM, iA, iS, iM, iN, fU, fR]); (case hcl => (simp only [evs, St.ev, constAV, evl]; (repeat (first | exact closeAVs_nil | (apply closeAVs_cons; (first | (refine close_own3 rfl (by decide)) | (refine close_ownO rfl (by decide) ?_; assumption) | rfl)))); done)); (case hu => rfl)))
   exact ⟨_, rfl, rfl⟩
  ·have hv2 : ¬ (rv : Int) = 1 := by omega
   repeat (first | (with_reducible first | refine Way.imp ?_ | refine blk_o rfl ?_) | ((with_reducible refine WayR.imp (fun K hK => ?_)); simp (disch := first | omega | (simp only [dls]; omega)) only [std, reduceIte, reduceCtorEq, iT, nA, nS, nM, iA, iS, iM, iN, fU, fR]; subst hK) | refine zcA (cr) rfl rfl rfl ?_ | refine zcA (cs) rfl rfl rfl ?_ | (apply call_any_g (hw) rfl; (case hg => simp (disch := first | omega | (simp only [dls]; omega)) only [std, reduceIte, reduceCtorEq, iT, nA, nS, nM, iA, iS, iM, iN, fU, fR]); (case hcl => (simp only [evs, St.ev, constAV, evl]; (repeat (first | exact closeAVs_nil | (apply closeAVs_cons; (first | (refine close_own3 rfl (by decide)) | (refine close_ownO rfl (by decide) ?_; assumption) | rfl)))); done)); (case hu => rfl)))
   exact ⟨_, rfl, rfl⟩
 ·have hlt : i < (osl p.A).length := by omega
  have hrw := hrow i hlt
  have hol : out.length = i := by rw [ho, List.length_map, twA_len]
  have hsn : ∀ v : VV, encB fM out ++ [[Cell.c (vr v)]] = encB fM (out ++ [v]) := fun v => by rw [<- encB_append]; rfl
  have hnx := twA_succ p i
  rw [mAt_in hlt] at hnx
  repeat (first | (with_reducible first | refine Way.imp ?_ | refine blk_o rfl ?_) | ((with_reducible refine WayR.imp (fun K hK => ?_)); simp (disch := first | omega | (simp only [dls]; omega)) only [std, reduceIte, reduceCtorEq, iT, nA, nS, nM, iA, iS, iM, iN, fU, fM, fR, hsn]; subst hK) | refine zcA (hrw) rfl rfl rfl ?_)
  refine ⟨(i + 1, out ++ [rowV (scaleL (valsV (osl p.A)[i]) 2)], true), ?hI3, ?hM3, Fgt.head (Nat.zero_le 4) (false :: true :: false :: true :: true :: false :: false :: false :: false :: false :: false :: false :: false :: false :: false :: false :: false :: false :: false :: false :: false :: false :: false :: false :: false :: false :: false :: false :: false :: false :: false :: true :: true :: true :: []) ?hT3 ?hH3⟩
  case hT3 => first | (simp (disch := omega) only [hds, liveT, cleanAV, cleanCell, clean1, cleanBlk_mk, reduceIte, iS, iA, iN, List.isEmpty_cons, Bool.or_true, Bool.not_false]; done) | rfl
  case hH3 => first | (simp (disch := omega) only [hds, liveT, cleanAV, cleanCell, clean1, cleanBlk_mk, reduceIte, iS, iA, iN, List.isEmpty_cons, Bool.or_true, Bool.not_false]; done) | rfl
  ·dsimp only; exact ⟨hlt, by rw [hnx, ho, List.map_append]; rfl, by cases out <;> rfl⟩
  ·dsimp only; omega
end Go.Proofs.Ytncgbjhojbnecaa
