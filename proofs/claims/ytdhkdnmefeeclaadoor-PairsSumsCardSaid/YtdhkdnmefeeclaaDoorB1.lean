/- Plain fractions: what is stored, and what number it is. -/
import Derived.Test.YtdhkdnmefeeclaaDoorA1
set_option linter.unusedSimpArgs false
set_option linter.unusedVariables false
set_option linter.unnecessarySimpa false
namespace Go.Off

/-- A row of words as it is stored: nil, or not. -/
abbrev Row := Option (List UInt32)
abbrev Row.ds (a : Row) : List UInt32 := osl a
def Row.val (a : Row) : Nat := Off.val a.ds
/-- A whole number as it is stored. -/
structure RI where
  minus : Bool
  size : Row
/-- A fraction as it is stored. -/
structure RR where
  minus : Bool
  size : Row
  den : Row

def RI.val (a : RI) : Int := if a.minus then -(a.size.val : Int) else a.size.val
def RR.top (a : RR) : Int := if a.minus then -(a.size.val : Int) else a.size.val
def RR.bot (a : RR) : Nat := if a.den.val = 0 then 1 else a.den.val
def RR.val (a : RR) : Rat := mkRat a.top a.bot

def rowN (n : Nat) : Row := some (digits n)
def rawZ (i : Int) : RI := ⟨decide (i < 0), rowN i.natAbs⟩
def rawQ (q : Rat) : RR := ⟨decide (q.num < 0), rowN q.num.natAbs, rowN q.den⟩

@[simp] theorem rowN_val (n : Nat) : (rowN n).val = n := by simp [rowN, Row.val, osl, val_digits]
theorem rowN_ds (n : Nat) : (rowN n).ds = digits n := rfl
@[simp] theorem rawZ_val (i : Int) : (rawZ i).val = i := by
  unfold RI.val rawZ
  simp only [rowN_val, decide_eq_true_eq]
  split <;> omega
theorem RR.bot_ne (a : RR) : a.bot ≠ 0 := by unfold RR.bot; split <;> omega
@[simp] theorem rawQ_top (q : Rat) : (rawQ q).top = q.num := by
  unfold RR.top rawQ
  simp only [rowN_val, decide_eq_true_eq]
  split <;> omega
@[simp] theorem rawQ_bot (q : Rat) : (rawQ q).bot = q.den := by
  unfold RR.bot rawQ
  have := q.den_nz
  simp [this]
@[simp] theorem rawQ_val (q : Rat) : (rawQ q).val = q := by
  unfold RR.val; rw [rawQ_top, rawQ_bot, Rat.mkRat_self]

theorem make_num (n : Int) (d : Nat) (hd : d ≠ 0) : (mkRat n d).num.natAbs = n.natAbs / n.natAbs.gcd d := by
  rw [Rat.num_mkRat, if_neg hd, Nat.gcd_comm d, Int.natAbs_ediv_of_dvd (by
    rw [Int.ofNat_dvd_left]; exact Nat.gcd_dvd_left _ _)]
  simp
theorem make_den (n : Int) (d : Nat) (hd : d ≠ 0) : (mkRat n d).den = d / n.natAbs.gcd d := by
  rw [Rat.den_mkRat, if_neg hd, Nat.gcd_comm d]
theorem make_neg (n : Int) (d : Nat) (hd : d ≠ 0) : (mkRat n d).num < 0 ↔ n < 0 := by
  rw [Rat.num_mkRat, if_neg hd]
  have hg : (0 : Int) < (d.gcd n.natAbs : Nat) := by
    have := Nat.gcd_pos_of_pos_left n.natAbs (Nat.pos_of_ne_zero hd)
    omega
  constructor
  · intro h
    refine Decidable.byContradiction fun h2 => ?_
    have := Int.ediv_nonneg (a := n) (by omega) (Int.le_of_lt hg)
    omega
  · intro h
    exact Int.ediv_neg_of_neg_of_pos h hg
end Go.Off
namespace Go.Off

abbrev W : Nat := 4294967296

theorem val_set (l : List UInt32) (k : Nat) (hk : k < l.length) (x : UInt32) : val (l.set k x) + W ^ k * dgt l k = val l + W ^ k * x.toNat := by
  induction l generalizing k with
  | nil => simp at hk
  | cons d l ih =>
    cases k with
    | zero => simp [val, dgt]; omega
    | succ k =>
      have hk' : k < l.length := by simpa using hk
      have := ih k hk'
      have hd : dgt (d :: l) (k + 1) = dgt l k := by simp [dgt]
      simp only [List.set_cons_succ, val, hd, W, Nat.pow_succ] at this ⊢
      have e1 : (4294967296 ^ k * 4294967296) * dgt l k = 4294967296 * (4294967296 ^ k * dgt l k) := by rw [Nat.mul_comm (4294967296 ^ k), Nat.mul_assoc]
      have e2 : (4294967296 ^ k * 4294967296) * x.toNat = 4294967296 * (4294967296 ^ k * x.toNat) := by rw [Nat.mul_comm (4294967296 ^ k), Nat.mul_assoc]
      rw [e1, e2]
      omega

theorem dgt_set_ne (l : List UInt32) (k j : Nat) (x : UInt32) (h : k ≠ j) : dgt (l.set k x) j = dgt l j := by
  unfold dgt
  by_cases hj : j < l.length
  · simp [hj, h]
  · simp [hj]
theorem dgt_set_eq (l : List UInt32) (k : Nat) (hk : k < l.length) (x : UInt32) : dgt (l.set k x) k = x.toNat := by simp [dgt, hk]
theorem dgt_replicate (n k : Nat) : dgt (List.replicate n 0) k = 0 := by unfold dgt; split <;> simp
theorem dgt_eq (l : List UInt32) (k : Nat) (hk : k < l.length) : dgt l k = l[k].toNat := by simp [dgt, hk]

/-- Add: a word further. -/
theorem add_step {A B O c k : Nat} (x y : Nat) (h : O + W ^ k * c = A + B) :
    (O + W ^ k * ((c + (x + y)) % W)) + W ^ (k + 1) * ((c + (x + y)) / W) = (A + W ^ k * x) + (B + W ^ k * y) := by
  have e : W ^ (k + 1) * ((c + (x + y)) / W) = W ^ k * (W * ((c + (x + y)) / W)) := by rw [Nat.pow_succ, Nat.mul_assoc]
  rw [e, Nat.add_assoc, ← Nat.mul_add, Nat.mod_add_div, Nat.mul_add, Nat.mul_add]
  omega

theorem add_end' {w A B O c m : Nat} (hw : 2 ≤ w) (hm : 0 < m) (hA : A < w ^ (m - 1)) (hB : B < w ^ (m - 1)) (h : O + w ^ m * c = A + B) : O = A + B := by
  have e : w ^ m = w ^ (m - 1) * w := by rw [← Nat.pow_succ]; congr 1; omega
  rw [e] at h
  generalize w ^ (m - 1) = p at *
  cases c with
  | zero => simpa using h
  | succ c =>
    exfalso
    have h1 : p * w * (c + 1) = p * w * c + p * w := Nat.mul_succ _ _
    have h2 : p * 2 ≤ p * w := Nat.mul_le_mul_left _ hw
    have h3 : 0 ≤ p * w * c := Nat.zero_le _
    omega
theorem add_end {A B O c m : Nat} (hm : 0 < m) (hA : A < W ^ (m - 1)) (hB : B < W ^ (m - 1)) (h : O + W ^ m * c = A + B) : O = A + B := add_end' (by decide) hm hA hB h

/-- Sub: a word further; the borrow is 0 or 1. -/
theorem sub_step {A B O c k : Nat} (x y : Nat) (_hx : x < W) (hy : y < W) (hc : c ≤ 1) (h : A + W ^ k * c = O + B) :
    (A + W ^ k * x) + W ^ (k + 1) * (if x < y + c then 1 else 0) = (O + W ^ k * (if x < y + c then W + x - y - c else x - y - c)) + (B + W ^ k * y) := by
  have e : ∀ z, W ^ (k + 1) * z = W ^ k * (W * z) := fun z => by rw [Nat.pow_succ, Nat.mul_assoc]
  rw [e]
  generalize W ^ k = p at *
  split
  · have : p * (W + x - y - c) + p * y + p * c = p * x + p * (W * 1) := by
      rw [← Nat.mul_add, ← Nat.mul_add, ← Nat.mul_add]; congr 1; omega
    omega
  · have : p * (x - y - c) + p * y + p * c = p * x := by
      rw [← Nat.mul_add, ← Nat.mul_add]; congr 1; omega
    simp only [Nat.mul_zero, Nat.add_zero]
    omega

/-- Mul: a word of the inner loop further. -/
theorem mul_step {V V' c i k x y o P R : Nat} (hV : V' + W ^ (i + k) * o = V + W ^ (i + k) * ((c + (x * y + o)) % W)) (h : V + W ^ (i + k) * c = P + x * W ^ i * R) :
    V' + W ^ (i + (k + 1)) * ((c + (x * y + o)) / W) = P + x * W ^ i * (R + W ^ k * y) := by
  have e : W ^ (i + (k + 1)) * ((c + (x * y + o)) / W) = W ^ (i + k) * (W * ((c + (x * y + o)) / W)) := by rw [← Nat.add_assoc, Nat.pow_succ, Nat.mul_assoc]
  have h1 : W ^ (i + k) * ((c + (x * y + o)) % W) + W ^ (i + k) * (W * ((c + (x * y + o)) / W)) = W ^ (i + k) * c + W ^ (i + k) * (x * y) + W ^ (i + k) * o := by
    rw [← Nat.mul_add, Nat.mod_add_div, ← Nat.mul_add, ← Nat.mul_add, Nat.add_assoc]
  have h2 : x * W ^ i * (R + W ^ k * y) = x * W ^ i * R + W ^ (i + k) * (x * y) := by
    rw [Nat.mul_add, Nat.pow_add]
    congr 1
    ac_rfl
  rw [e, h2]
  omega

theorem or_add {a b s : Nat} (hb : b < 2 ^ s) : (2 ^ s * a) ||| b = 2 ^ s * a + b := (Nat.two_pow_add_eq_or_of_lt hb a).symm

theorem low_of_lt {l : List UInt32} {m : Nat} (h : val l < W ^ m) : low l m = val l := by
  by_cases hm : m ≤ l.length
  · have e := val_take_drop l m hm
    have : val (l.drop m) = 0 := by
      refine Decidable.byContradiction fun h2 => ?_
      have : 4294967296 ^ m * 1 ≤ 4294967296 ^ m * val (l.drop m) := Nat.mul_le_mul_left _ (by omega)
      simp only [W] at h
      omega
    unfold low
    rw [e, this]; simp
  · exact low_all l (by omega)
theorem sub_end {w A B O c m : Nat} (hO : O < w ^ m) (hBA : B ≤ A) (hc : c ≤ 1) (h : A + w ^ m * c = O + B) : O = A - B := by
  generalize w ^ m = p at *
  match c, hc with
  | 0, _ => simp at h; omega
  | 1, _ => simp at h; omega
  | c + 2, hc => omega

/-! ### which is the greater one -/

def cmpNat (x y : Nat) : Int := if x < y then -1 else if y < x then 1 else 0

theorem cmp_len {x y : Nat} (h : (digits x).length < (digits y).length) : x < y := by
  have h1 := digits_ge h
  have h2 := val_lt (digits x)
  rw [val_digits] at h2
  exact Nat.lt_of_lt_of_le h2 h1

theorem drop_eq_of_dgt {s t : List UInt32} (hl : s.length = t.length) (k : Nat) (h : ∀ j, k ≤ j → dgt s j = dgt t j) : s.drop k = t.drop k := by
  apply List.ext_getElem
  · simp [hl]
  · intro i h1 h2
    simp only [List.length_drop] at h1 h2
    have := h (k + i) (by omega)
    rw [dgt_eq s _ (by omega), dgt_eq t _ (by omega)] at this
    simp only [List.getElem_drop]
    exact UInt32.toNat_inj.1 this

theorem cmp_at {s t : List UInt32} (hl : s.length = t.length) (k : Nat) (hk : k < s.length) (h : ∀ j, k < j → dgt s j = dgt t j) (hlt : dgt s k < dgt t k) : val s < val t := by
  have e := drop_eq_of_dgt hl (k + 1) (fun j hj => h j hj)
  rw [val_take_drop s (k + 1) (by omega), val_take_drop t (k + 1) (by omega), e]
  have h1 := low_succ s k
  have h2 := low_succ t k
  have h3 := low_lt s k
  unfold low at h1 h2 h3
  rw [h1, h2]
  have : 4294967296 ^ k * (dgt s k + 1) ≤ 4294967296 ^ k * dgt t k := Nat.mul_le_mul_left _ hlt
  rw [Nat.mul_add] at this
  omega

theorem cmp_all {s t : List UInt32} (hl : s.length = t.length) (h : ∀ j, dgt s j = dgt t j) : s = t := by
  have := drop_eq_of_dgt hl 0 (fun j _ => h j)
  simpa using this

end Go.Off
namespace Go.Off

/-- A sign of a text that is a decimal digit. -/
def isDig (c : UInt8) : Prop := 48 ≤ c.toNat ∧ c.toNat ≤ 57
def chr (d : Nat) : UInt8 := UInt8.ofNat (48 + d)
theorem chr_toNat {d : Nat} (h : d < 10) : (chr d).toNat = 48 + d := by unfold chr; simp [UInt8.toNat_ofNat']; omega
theorem chr_dig {d : Nat} (h : d < 10) : isDig (chr d) := by unfold isDig; rw [chr_toNat h]; omega

/-- The number of digits, the lowest first. -/
def rv : List UInt8 → Nat
  | [] => 0
  | c :: l => (c.toNat - 48) + 10 * rv l
/-- The number of a text. -/
def tv (s : List UInt8) : Nat := rv s.reverse

def rdec (n : Nat) : List UInt8 := if n = 0 then [] else chr (n % 10) :: rdec (n / 10)
/-- A number's text. -/
def dec (n : Nat) : List UInt8 := if n = 0 then [48] else (rdec n).reverse

theorem rdec_zero : rdec 0 = [] := by rw [rdec]; rfl
theorem rdec_pos {n : Nat} (h : n ≠ 0) : rdec n = chr (n % 10) :: rdec (n / 10) := by rw [rdec, if_neg h]

theorem rv_append (l m : List UInt8) : rv (l ++ m) = rv l + 10 ^ l.length * rv m := by
  induction l with
  | nil => simp [rv]
  | cons d l ih =>
    simp only [List.cons_append, rv, ih, List.length_cons, Nat.pow_succ]
    rw [Nat.mul_add, Nat.add_assoc, Nat.mul_comm (10 ^ l.length) 10, Nat.mul_assoc]

theorem rv_lt {l : List UInt8} (h : ∀ c ∈ l, isDig c) : rv l < 10 ^ l.length := by
  induction l with
  | nil => simp [rv]
  | cons d l ih =>
    have := ih (fun c hc => h c (by simp [hc]))
    have hd := h d (by simp)
    unfold isDig at hd
    simp only [rv, List.length_cons, Nat.pow_succ]
    omega

theorem rv_rdec (n : Nat) : rv (rdec n) = n := by
  induction n using Nat.strongRecOn with
  | ind n ih =>
    by_cases h : n = 0
    · subst h; rw [rdec_zero]; rfl
    · rw [rdec_pos h, rv, ih _ (by omega), chr_toNat (by omega)]
      omega

theorem rdec_dig (n : Nat) : ∀ c ∈ rdec n, isDig c := by
  induction n using Nat.strongRecOn with
  | ind n ih =>
    by_cases h : n = 0
    · subst h; rw [rdec_zero]; simp
    · rw [rdec_pos h]
      intro c hc
      rcases List.mem_cons.1 hc with rfl | hc
      · exact chr_dig (by omega)
      · exact ih _ (by omega) c hc

theorem dec_dig (n : Nat) : ∀ c ∈ dec n, isDig c := by
  unfold dec
  split
  · simp [isDig]
  · intro c hc; exact rdec_dig n c (by simpa using hc)

theorem tv_dec (n : Nat) : tv (dec n) = n := by
  unfold dec tv
  split
  · rename_i h; subst h; rfl
  · rw [List.reverse_reverse, rv_rdec]

/-- A row of digits whose last one is not 0. -/
theorem rdec_rv {l : List UInt8} (hd : ∀ c ∈ l, isDig c) (h : ∀ hne : l ≠ [], l.getLast hne ≠ 48) : rdec (rv l) = l := by
  induction l with
  | nil => exact rdec_zero
  | cons d l ih =>
    have hdd := hd d (by simp)
    unfold isDig at hdd
    have hl := ih (fun c hc => hd c (by simp [hc])) (fun hne => by
      have := h (by simp)
      rwa [List.getLast_cons hne] at this)
    have hpos : rv (d :: l) ≠ 0 := by
      cases l with
      | nil =>
        have h1 := h (by simp)
        simp only [List.getLast_singleton] at h1
        simp only [rv]
        intro h2
        apply h1
        apply UInt8.toNat_inj.1
        simp; omega
      | cons x l =>
        intro h2
        have : rv (x :: l) = 0 := by simp only [rv] at h2 ⊢; omega
        rw [this, rdec_zero] at hl
        cases hl
    rw [rdec_pos hpos]
    have h2 : rv (d :: l) / 10 = rv l := by simp only [rv]; omega
    have h3 : rv (d :: l) % 10 = d.toNat - 48 := by simp only [rv]; omega
    rw [h2, h3, hl]
    congr 1
    apply UInt8.toNat_inj.1
    rw [chr_toNat (by omega)]
    omega

/-- A text of digits without a nought ahead is its number's. -/
theorem dec_tv {s : List UInt8} (hne : s ≠ []) (hd : ∀ c ∈ s, isDig c) (h : s.length > 1 → s.head hne ≠ 48) : dec (tv s) = s := by
  by_cases h0 : s.head hne = 48
  · have h1 : ¬ s.length > 1 := fun hl => h hl h0
    match s, hne, h0, h1 with
    | [c], _, h0, _ => simp at h0; subst h0; rfl
    | a :: b :: c, _, _, h1 => simp at h1
  · have hr : rdec (tv s) = s.reverse := rdec_rv (fun c hc => hd c (by simpa using hc)) (fun hn => by rw [List.getLast_reverse]; exact h0)
    have hpos : tv s ≠ 0 := fun hz => by
      rw [hz, rdec_zero] at hr
      exact hne (by simpa using hr.symm)
    unfold dec
    rw [if_neg hpos, hr, List.reverse_reverse]

theorem tv_cons (c : UInt8) (s : List UInt8) : tv (c :: s) = tv s + 10 ^ s.length * (c.toNat - 48) := by
  unfold tv
  rw [List.reverse_cons, rv_append]
  simp [rv]
theorem tv_snoc (s : List UInt8) (c : UInt8) : tv (s ++ [c]) = 10 * tv s + (c.toNat - 48) := by
  unfold tv
  simp [rv]
  omega
theorem tv_zero_cons (s : List UInt8) : tv (48 :: s) = tv s := by rw [tv_cons]; simp

/-- 'cut': noughts ahead are left out. -/
def cutT : List UInt8 → List UInt8
  | [] => [48]
  | c :: s => if s ≠ [] ∧ c = 48 then cutT s else c :: s
theorem cutT_eq : ∀ {s : List UInt8}, (∀ c ∈ s, isDig c) → cutT s = dec (tv s)
  | [], _ => rfl
  | c :: s, h => by
    unfold cutT
    split
    · rename_i hc
      obtain ⟨_, rfl⟩ := hc
      rw [tv_zero_cons]
      exact cutT_eq (fun c hc => h c (by simp [hc]))
    · rename_i hc
      refine (dec_tv (by simp) h (fun hl hh => hc ⟨fun e => ?_, by simpa using hh⟩)).symm
      subst e; simp at hl

/-- A text's digit from the end; 0 beyond. -/
def tdg (s : List UInt8) (k : Nat) : Nat := if h : k < s.length then (s[s.length - 1 - k]'(by omega)).toNat - 48 else 0
def tlow (s : List UInt8) (k : Nat) : Nat := rv (s.reverse.take k)
theorem tlow_zero (s : List UInt8) : tlow s 0 = 0 := by simp [tlow, rv]
theorem tlow_succ (s : List UInt8) (k : Nat) : tlow s (k + 1) = tlow s k + 10 ^ k * tdg s k := by
  unfold tlow tdg
  split
  · rename_i h
    rw [List.take_succ_eq_append_getElem (by simpa using h), rv_append]
    simp [rv, Nat.min_eq_left (Nat.le_of_lt h)]
  · rename_i h
    rw [List.take_of_length_le (by simp; omega), List.take_of_length_le (by simp; omega)]
    simp
theorem tlow_all (s : List UInt8) {k : Nat} (h : s.length ≤ k) : tlow s k = tv s := by unfold tlow tv; rw [List.take_of_length_le (by simpa using h)]
theorem tdg_lt {s : List UInt8} (h : ∀ c ∈ s, isDig c) (k : Nat) : tdg s k < 10 := by
  unfold tdg
  split
  · rename_i hk
    have := h _ (List.getElem_mem (show s.length - 1 - k < s.length by omega))
    unfold isDig at this
    omega
  · decide

theorem tv_lt {s : List UInt8} (h : ∀ c ∈ s, isDig c) : tv s < 10 ^ s.length := by
  have := rv_lt (l := s.reverse) (fun c hc => h c (by simpa using hc))
  simpa [tv] using this

theorem dec_ne_nil (n : Nat) : dec n ≠ [] := by
  unfold dec
  split
  · simp
  · rename_i h; rw [rdec_pos h]; simp

theorem dec_inj {a b : Nat} (h : dec a = dec b) : a = b := by rw [← tv_dec a, h, tv_dec]

theorem dec_head {n : Nat} (h : (dec n).length > 1) : (dec n).head (dec_ne_nil n) ≠ 48 := by
  have key : ∀ n, n ≠ 0 → ∀ hne : rdec n ≠ [], (rdec n).getLast hne ≠ 48 := by
    intro n
    induction n using Nat.strongRecOn with
    | ind n ih =>
      intro hn
      rw [rdec_pos hn]
      intro hne
      by_cases h2 : n / 10 = 0
      · have e : rdec (n / 10) = [] := by rw [h2, rdec_zero]
        simp only [e, List.getLast_singleton]
        intro h3
        have := congrArg UInt8.toNat h3
        rw [chr_toNat (by omega)] at this
        simp at this
        omega
      · have hne2 : rdec (n / 10) ≠ [] := by rw [rdec_pos h2]; simp
        rw [List.getLast_cons hne2]
        exact ih _ (by omega) h2 hne2
  have hn : n ≠ 0 := fun e => by subst e; simp [dec] at h
  have e : dec n = (rdec n).reverse := by unfold dec; rw [if_neg hn]
  simp only [e, List.head_reverse]
  exact key n hn _

theorem dec_len_lt {a b : Nat} (h : (dec a).length < (dec b).length) : a < b := by
  have h1 := tv_lt (dec_dig a)
  rw [tv_dec] at h1
  have hb1 : (dec b).length > 1 := by
    have : 0 < (dec a).length := List.length_pos_iff.2 (dec_ne_nil a)
    omega
  have h2 := dec_head hb1
  have h3 := dec_dig b _ (List.head_mem (dec_ne_nil b))
  have hc : (dec b) = (dec b).head (dec_ne_nil b) :: (dec b).tail := (List.cons_head_tail _).symm
  have h4 : tv (dec b) = tv (dec b).tail + 10 ^ (dec b).tail.length * (((dec b).head (dec_ne_nil b)).toNat - 48) := by
    conv => lhs; rw [hc]
    rw [tv_cons]
  rw [tv_dec, List.length_tail] at h4
  have h5 : 1 ≤ ((dec b).head (dec_ne_nil b)).toNat - 48 := by
    unfold isDig at h3
    have : ((dec b).head (dec_ne_nil b)).toNat ≠ 48 := fun e => h2 (UInt8.toNat_inj.1 (by simpa using e))
    omega
  have h6 : 10 ^ (dec a).length ≤ 10 ^ ((dec b).length - 1) := Nat.pow_le_pow_right (by decide) (by omega)
  have h7 := Nat.mul_le_mul_left (10 ^ ((dec b).length - 1)) h5
  omega

end Go.Off
namespace Go.Off

def lexLess : List UInt8 → List UInt8 → Bool
  | _, [] => false
  | [], _ :: _ => true
  | a :: x, b :: y => a < b || (a == b && lexLess x y)

theorem lex_tv : ∀ {s t : List UInt8}, s.length = t.length → (∀ c ∈ s, isDig c) → (∀ c ∈ t, isDig c) → lexLess s t = decide (tv s < tv t)
  | [], [], _, _, _ => rfl
  | [], b :: y, h, _, _ => by simp at h
  | a :: x, [], h, _, _ => by simp at h
  | a :: x, b :: y, h, hs, ht => by
    have hl : x.length = y.length := by simpa using h
    have ih := lex_tv hl (fun c hc => hs c (by simp [hc])) (fun c hc => ht c (by simp [hc]))
    have h1 := tv_lt (s := x) (fun c hc => hs c (by simp [hc]))
    have h2 := tv_lt (s := y) (fun c hc => ht c (by simp [hc]))
    have ha := hs a (by simp)
    have hb := ht b (by simp)
    unfold isDig at ha hb
    rw [hl] at h1
    simp only [lexLess, ih, tv_cons, hl]
    generalize 10 ^ y.length = p at *
    by_cases h3 : a.toNat < b.toNat
    · have h3' : a < b := UInt8.lt_iff_toNat_lt.2 h3
      have h4 : p * (a.toNat - 48 + 1) ≤ p * (b.toNat - 48) := Nat.mul_le_mul_left _ (by omega)
      rw [Nat.mul_add] at h4
      have : tv x + p * (a.toNat - 48) < tv y + p * (b.toNat - 48) := by omega
      simp [h3', this]
    · have h3' : ¬ a < b := fun h => h3 (UInt8.lt_iff_toNat_lt.1 h)
      by_cases h4 : a.toNat = b.toNat
      · have h4' : a = b := UInt8.toNat_inj.1 h4
        subst h4'
        simp
      · have h4' : ¬ a = b := fun h => h4 (by rw [h])
        have h5 : p * (b.toNat - 48 + 1) ≤ p * (a.toNat - 48) := Nat.mul_le_mul_left _ (by omega)
        rw [Nat.mul_add] at h5
        have : ¬ tv x + p * (a.toNat - 48) < tv y + p * (b.toNat - 48) := by omega
        simp [h3', h4', this]

theorem dec_less (a b : Nat) : (if (dec a).length = (dec b).length then lexLess (dec a) (dec b) else decide ((dec a).length < (dec b).length)) = decide (a < b) := by
  split
  · rename_i h
    rw [lex_tv h (dec_dig a) (dec_dig b), tv_dec, tv_dec]
  · rename_i h
    by_cases h1 : (dec a).length < (dec b).length
    · have := dec_len_lt h1
      simp [h1, this]
    · have := dec_len_lt (a := b) (b := a) (by omega)
      have h2 : ¬ a < b := by omega
      simp [h1, h2]
end Go.Off

namespace Go.Off
theorem rdec_len {n k : Nat} (h : n < 10 ^ k) : (rdec n).length ≤ k := by
  induction k generalizing n with
  | zero =>
    have : n = 0 := by simpa using h
    subst this; simp [rdec_zero]
  | succ k ih =>
    by_cases hn : n = 0
    · subst hn; simp [rdec_zero]
    · rw [rdec_pos hn, List.length_cons]
      have : n / 10 < 10 ^ k := Nat.div_lt_of_lt_mul (by rw [Nat.mul_comm, ← Nat.pow_succ]; exact h)
      have := ih this
      omega
theorem dec_len {n L : Nat} (h : (digits n).length ≤ L) : (dec n).length ≤ 10 * L + 1 := by
  have h1 := val_lt (digits n)
  rw [val_digits] at h1
  have h2 : (4294967296 : Nat) ^ (digits n).length ≤ (10 ^ 10) ^ (digits n).length := Nat.pow_le_pow_left (by decide) _
  rw [← Nat.pow_mul] at h2
  have h3 := rdec_len (n := n) (k := 10 * (digits n).length) (by omega)
  unfold dec
  split
  · simp
  · rw [List.length_reverse]; omega

/-- A whole number's text. -/
def decZ (z : Int) : List UInt8 := if z < 0 then 45 :: dec z.natAbs else dec z.natAbs
def textQ (q : Rat) : List UInt8 := if q.den = 1 then decZ q.num else decZ q.num ++ 47 :: dec q.den
theorem decZ_len {z : Int} {L : Nat} (h : (digits z.natAbs).length ≤ L) : (decZ z).length ≤ 10 * L + 2 := by
  have := dec_len h
  unfold decZ
  split
  · rw [List.length_cons]; omega
  · omega
end Go.Off
namespace Go.Off

/-- 'digit': by halves: one half further. A: what is left; q: what was taken off. -/
structure DigI (A0 b A q k : Nat) : Prop where
  eq : A0 = A + b * q
  lt : A < b * 2 ^ k
  dv : ∃ m, q = 2 ^ k * m
  qlt : q + 2 ^ k ≤ 2 ^ 32

theorem DigI.start {A0 b : Nat} (h : A0 < b * 2 ^ 32) : DigI A0 b A0 0 32 := ⟨by omega, h, ⟨0, rfl⟩, by omega⟩
theorem DigI.yes {A0 b A q k : Nat} (h : DigI A0 b A q (k + 1)) (hk : b * 2 ^ k ≤ A) : DigI A0 b (A - b * 2 ^ k) (q ||| 2 ^ k) k ∧ q ||| 2 ^ k = q + 2 ^ k := by
  obtain ⟨m, hm⟩ := h.dv
  have e : q ||| 2 ^ k = q + 2 ^ k := by rw [hm]; exact or_add (Nat.pow_lt_pow_right (by decide) (Nat.lt_succ_self k))
  have hp : (2 : Nat) ^ (k + 1) = 2 ^ k * 2 := Nat.pow_succ ..
  have hl := h.lt
  have hq := h.qlt
  refine ⟨⟨?_, ?_, ⟨2 * m + 1, ?_⟩, ?_⟩, e⟩
  · have := h.eq; rw [e, Nat.mul_add]; omega
  · rw [hp, ← Nat.mul_assoc] at hl; omega
  · rw [e, hm, hp, Nat.mul_add, Nat.mul_assoc, Nat.mul_one]
  · rw [e]; omega
theorem DigI.no {A0 b A q k : Nat} (h : DigI A0 b A q (k + 1)) (hk : A < b * 2 ^ k) : DigI A0 b A q k := by
  obtain ⟨m, hm⟩ := h.dv
  have hp : (2 : Nat) ^ (k + 1) = 2 ^ k * 2 := Nat.pow_succ ..
  have hq := h.qlt
  exact ⟨h.eq, hk, ⟨2 * m, by rw [hm, hp, Nat.mul_assoc]⟩, by omega⟩
theorem DigI.done {A0 b A q : Nat} (h : DigI A0 b A q 0) : q = A0 / b ∧ A = A0 % b := by
  have hl := h.lt
  simp at hl
  have he := h.eq
  have hb : 0 < b := by omega
  constructor
  · rw [he, Nat.add_mul_div_left _ _ hb, Nat.div_eq_of_lt hl, Nat.zero_add]
  · rw [he, Nat.add_mul_mod_self_left, Nat.mod_eq_of_lt hl]

/-- DivMod: a word further. -/
theorem div_step (H b x : Nat) (hb : 0 < b) : (x + W * H) / b = (x + W * (H % b)) / b + W * (H / b) ∧ (x + W * H) % b = (x + W * (H % b)) % b := by
  have e : x + W * H = (x + W * (H % b)) + b * (W * (H / b)) := by
    have := Nat.mod_add_div H b
    have h2 : b * (W * (H / b)) = W * (b * (H / b)) := by ac_rfl
    rw [h2, Nat.add_assoc, ← Nat.mul_add, this]
  constructor
  · rw [e, Nat.add_mul_div_left _ _ hb]
  · rw [e, Nat.add_mul_mod_self_left]
theorem div_word {H b x : Nat} (hb : 0 < b) (hx : x < W) : (x + W * (H % b)) / b < W ∧ x + W * (H % b) < b * W := by
  have h1 : H % b + 1 ≤ b := Nat.mod_lt _ hb
  have h2 : W * (H % b + 1) ≤ W * b := Nat.mul_le_mul_left _ h1
  rw [Nat.mul_add, Nat.mul_comm W b] at h2
  have h3 : x + W * (H % b) < b * W := by omega
  exact ⟨Nat.div_lt_of_lt_mul h3, h3⟩

theorem gcd_step (a b : Nat) : Nat.gcd b (a % b) = Nat.gcd a b := by
  rw [Nat.gcd_comm b, ← Nat.gcd_rec b a, Nat.gcd_comm]
end Go.Off
namespace Go.Off

def pv : List Nat → Nat
  | [] => 0
  | d :: l => d + 10 * pv l
theorem pv_replicate (n : Nat) : pv (List.replicate n 0) = 0 := by
  induction n with
  | zero => rfl
  | succ n ih => simp [List.replicate_succ, pv, ih]
theorem pv_set (l : List Nat) (k : Nat) (hk : k < l.length) (x : Nat) : pv (l.set k x) + 10 ^ k * l[k] = pv l + 10 ^ k * x := by
  induction l generalizing k with
  | nil => simp at hk
  | cons d l ih =>
    cases k with
    | zero => simp [pv]; omega
    | succ k =>
      have hk' : k < l.length := by simpa using hk
      have := ih k hk'
      simp only [List.set_cons_succ, pv, List.getElem_cons_succ, Nat.pow_succ] at this ⊢
      have e1 : 10 ^ k * 10 * l[k] = 10 * (10 ^ k * l[k]) := by rw [Nat.mul_comm (10 ^ k), Nat.mul_assoc]
      have e2 : 10 ^ k * 10 * x = 10 * (10 ^ k * x) := by rw [Nat.mul_comm (10 ^ k), Nat.mul_assoc]
      rw [e1, e2]
      omega
theorem pv_drop (l : List Nat) (k : Nat) (hk : k < l.length) : pv (l.drop k) = l[k] + 10 * pv (l.drop (k + 1)) := by
  rw [List.drop_eq_getElem_cons hk, pv]

/-- The carrying: a place further. -/
theorem carry_step {O c x R P k : Nat} (h : O + 10 ^ k * c + 10 ^ k * (x + 10 * R) = P) :
    (O + 10 ^ k * ((x + c) % 10)) + 10 ^ (k + 1) * ((x + c) / 10) + 10 ^ (k + 1) * R = P := by
  have e1 : 10 ^ (k + 1) * ((x + c) / 10) = 10 ^ k * (10 * ((x + c) / 10)) := by rw [Nat.pow_succ, Nat.mul_assoc]
  have e2 : 10 ^ (k + 1) * R = 10 ^ k * (10 * R) := by rw [Nat.pow_succ, Nat.mul_assoc]
  have e3 := Nat.mod_add_div (x + c) 10
  have e4 : 10 ^ k * ((x + c) % 10) + 10 ^ k * (10 * ((x + c) / 10)) = 10 ^ k * (x + c) := by rw [← Nat.mul_add, e3]
  rw [e1, e2]
  rw [Nat.mul_add] at h e4
  omega

theorem dec_eq_zero (b : Nat) : (dec b == [48]) = decide (b = 0) := by
  by_cases h : b = 0
  · subst h; rfl
  · have : dec b ≠ [48] := fun e => h (by rw [← tv_dec b, e]; rfl)
    simp [h, this]
theorem dec_len_mono_le {n m : Nat} (h : n < 10 ^ m) (hm : 1 ≤ m) : (dec n).length ≤ m := by
  unfold dec
  split
  · simpa using hm
  · rw [List.length_reverse]; exact rdec_len h
theorem dec_wbase : dec 4294967296 = [52, 50, 57, 52, 57, 54, 55, 50, 57, 54] := by
  have h := dec_tv (s := [52, 50, 57, 52, 57, 54, 55, 50, 57, 54]) (by simp) (by simp [isDig]) (by simp)
  rwa [show tv [52, 50, 57, 52, 57, 54, 55, 50, 57, 54] = 4294967296 from by decide] at h
theorem tv_take_succ (s : List UInt8) (i : Nat) (h : i < s.length) : tv (s.take (i + 1)) = 10 * tv (s.take i) + (s[i].toNat - 48) := by
  rw [List.take_succ_eq_append_getElem h, tv_snoc]
end Go.Off
namespace Go.Off

theorem shl_word {x d n : Nat} (hn : n < 32) (hx : x < W) (hd : d < 2 ^ n) :
    d ||| (x * 2 ^ n % W) = d + x * 2 ^ n % W ∧ d + x * 2 ^ n % W < W ∧ x * 2 ^ n / W < 2 ^ n ∧ x * 2 ^ n < 18446744073709551616 := by
  have e : W = 2 ^ n * 2 ^ (32 - n) := by rw [← Nat.pow_add]; rw [show n + (32 - n) = 32 by omega]
  have h1 : x * 2 ^ n % W = 2 ^ n * (x % 2 ^ (32 - n)) := by rw [e, Nat.mul_comm x, Nat.mul_mod_mul_left]
  have hp : 0 < 2 ^ (32 - n) := Nat.pow_pos (by decide)
  have h2 := Nat.mod_lt x hp
  have h3 : 2 ^ n * (x % 2 ^ (32 - n) + 1) ≤ 2 ^ n * 2 ^ (32 - n) := Nat.mul_le_mul_left _ h2
  rw [Nat.mul_add, ← e] at h3
  have h4 : x * 2 ^ n < W * 2 ^ n := Nat.mul_lt_mul_of_pos_right hx (Nat.pow_pos (by decide))
  have h5 : (2 : Nat) ^ n ≤ 2 ^ 32 := Nat.pow_le_pow_right (by decide) (by omega)
  have h6 : W * 2 ^ n ≤ W * 2 ^ 32 := Nat.mul_le_mul_left _ h5
  refine ⟨?_, ?_, Nat.div_lt_of_lt_mul h4, ?_⟩
  · rw [h1, Nat.or_comm, or_add hd, Nat.add_comm]
  · rw [h1]; omega
  · simp only [W] at h4 h6
    omega

theorem shl_val' {w k d y n V V1 V2 A x : Nat} (hy : y = x * 2 ^ n) (h1 : V1 + w ^ k * d = V + w ^ k * (d + y % w)) (h2 : V2 = V1 + w ^ (k + 1) * (y / w)) (h : V = A * 2 ^ n) : V2 = (A + w ^ k * x) * 2 ^ n := by
  have e1 : w ^ (k + 1) * (y / w) = w ^ k * (w * (y / w)) := by rw [Nat.pow_succ, Nat.mul_assoc]
  have e2 : w ^ k * (y % w) + w ^ k * (w * (y / w)) = w ^ k * y := by rw [← Nat.mul_add, Nat.mod_add_div]
  rw [Nat.mul_add] at h1
  rw [Nat.add_mul, ← h, Nat.mul_assoc, ← hy]
  rw [e1] at h2
  generalize w ^ k * (y % w) = p at *
  generalize w ^ k * (w * (y / w)) = q at *
  generalize w ^ k * y = r at *
  generalize w ^ k * d = t at *
  omega
theorem shl_val {k d y n V V1 V2 A x : Nat} (hy : y = x * 2 ^ n) (h1 : V1 + W ^ k * d = V + W ^ k * (d + y % W)) (h2 : V2 + W ^ (k + 1) * 0 = V1 + W ^ (k + 1) * (y / W)) (h : V = A * 2 ^ n) : V2 = (A + W ^ k * x) * 2 ^ n :=
  shl_val' hy h1 (by rw [Nat.mul_zero, Nat.add_zero] at h2; exact h2) h
end Go.Off
namespace Go.Off

def cmpQ (x y : Rat) : Int := if x < y then -1 else if y < x then 1 else 0

theorem mkRat_lt {n m : Int} {d e : Nat} (hd : d ≠ 0) (he : e ≠ 0) : mkRat n d < mkRat m e ↔ n * e < m * d := by
  rw [Rat.mkRat_eq_div, Rat.mkRat_eq_div]
  have h1 : (0 : Rat) < (d : Rat) := by exact_mod_cast Nat.pos_of_ne_zero hd
  have h2 : (0 : Rat) < (e : Rat) := by exact_mod_cast Nat.pos_of_ne_zero he
  rw [Rat.div_lt_iff h1]
  have h3 : (m : Rat) / e * d = (m * d) / e := by grind
  rw [h3, Rat.lt_div_iff h2]
  exact_mod_cast Iff.rfl

theorem cmp_mkRat {n m : Int} {d e : Nat} (hd : d ≠ 0) (he : e ≠ 0) : (if n * e < m * d then (-1 : Int) else if m * d < n * e then 1 else 0) = cmpQ (mkRat n d) (mkRat m e) := by
  unfold cmpQ
  simp only [mkRat_lt hd he, mkRat_lt he hd]

end Go.Off
