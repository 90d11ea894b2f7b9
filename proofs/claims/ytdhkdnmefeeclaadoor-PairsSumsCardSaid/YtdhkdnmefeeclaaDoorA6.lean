/- The abstract memory: a range over a function whose iterator keeps boxes of its own (of types T) across its rounds. -/
import Derived.Test.YtdhkdnmefeeclaaDoorA5
set_option linter.unusedSimpArgs false
set_option linter.unusedVariables false
set_option linter.unnecessarySimpa false
set_option linter.unusedSimpArgs false
set_option linter.unusedVariables false
namespace Go.Am
open Go.RowKit

variable {GL : Glb}

variable {P : Program} {opn : List FuncId} {w w' : World} {M0 : Nat → Prop} {h h0 h1 h2 h' : List Blk} {hd hd' : Nat → Value} {B0 : Nat} {bad bad' : Nat → Prop} {X : Ctx} {st st' : St} {a : Act} {t t' t2 : List AV}
  {rd : Option Nat} {n n0 : Nat} {Q : Exit → Act → World → Prop}

/-- What a round keeps: what lay at the call and may not be written, and all boxes of T that were laid since. -/
def KpT (T : Nat → Prop) (w : World) (bad : Nat → Prop) (A B : World) : Prop :=
  KpOf w bad A B ∧ ∀ (g : Nat), w.heap.size ≤ g → ∀ cs t o, T t → A.heap[g]? = some (Obj.cells cs t o) → B.heap[g]? = some (Obj.cells cs t o)
theorem KpT.refl {T : Nat → Prop} {w : World} {bad : Nat → Prop} {A : World} : KpT T w bad A A := ⟨⟨Nat.le_refl _, fun _ _ _ _ _ _ h => h⟩, fun _ _ _ _ _ _ h => h⟩
theorem KpT.trans {T : Nat → Prop} {w : World} {bad : Nat → Prop} {A B C : World} (h : KpT T w bad A B) (k : KpT T w bad B C) : KpT T w bad A C :=
  ⟨⟨Nat.le_trans h.1.1 k.1.1, fun g hg hb cs t o hc => k.1.2 g hg hb cs t o (h.1.2 g hg hb cs t o hc)⟩, fun g hg cs t o ht hc => k.2 g hg cs t o ht (h.2 g hg cs t o ht hc)⟩

def IterT [Glb] (T : Nat → Prop) (P : Program) (gf : FuncId) (caps : List Cell) {α : Type} (encs : α → List AV) (np : Nat) (S Sp : List α → Prop) (N : Nat) : Prop :=
  callable P gf ∧ (∀ x, (encs x).length = np) ∧ ∀ (w : World) (bad : Nat → Prop) (vs : List Value), ((∀ g, bad g → g < w.heap.size) ∧ GB bad w.heap.size w) → PW (VR w bad [] hd00) caps vs →
    ∃ enc : α → List Value, (∀ x, PW (AVR w bad [] hd00) (encs x) (enc x)) ∧ ∀ n, SeqStopsK (Wd none) n P gf vs.toArray (fun x => (enc x).toArray) (KpT T w bad) S Sp N w

/-- The same within a round that begins at W, told from W on. -/
def rdY (X : Ctx) (hh : List Blk) (hdI : Nat → Value) (W : World) (hB : BW X W) (l : Nat) (hl : ∃ r, W.heap[l]? = some (.loop r)) : Ctx :=
  { B0 := X.B0, w0 := W, M0 := X.M0, hM0 := X.hM0, hB0 := hB.1, hG := hB.2, h0 := hh, hd0 := hdI, keep := fun k o => W.heap[k]? = some o ∧ o.isCells = false, hkeep := fun k o h => h.2, rd := some l,
    hrd := fun l' h => (by cases h; exact hl.elim fun r hr => ⟨r, hr, rfl⟩), lo := W.heap.size }

/-- The rounds of a range over a function, whatever is done first in each. -/
theorem rf_coreT {α : Type} {T : Nat → Prop} {g' : Operand} {ps' : Array Tmp} {body : CC} {ca cb : Code} {Q : Exit → St → Prop} {gf : FuncId} {vs : List Value} (hcb : ccode P opn cb = some body) (r : Rel X st hd a w) (hev : a.eval g' = .func (.func gf) #[] vs.toArray)
    (hcall : ∀ args w, (callFunc gf args).run P w = .ok (.enter gf args) w) {enc : α → List Value} {S Sp : List α → Prop} {N : Nat} (hseq : ∀ n, SeqStopsK (Wd none) n P gf vs.toArray (fun x => (enc x).toArray) (KpT T w (badOf X.M0 st.h hd)) S Sp N w)
    (hps : ∀ x, ((enc x).toArray).size = ps'.size) (Inv : List α → List Blk → Prop) (hInv0 : Inv [] st.h) (hT : ∀ pre hh, Inv pre hh → hh.length = st.h.length ∧ ∀ k ∈ hh, ¬ T k.ty) (R : List α → Exit → List Blk → Prop) (slots : α → List AV) (hBw : BW X w)
    (Ax : α → Act → World → Prop) (hAx : ∀ x a', OwnFrom w.heap.size (fun (_ : Unit) W => Ax x a' W))
    (hassign : ∀ (F : Fence) {m : Nat} (l : Nat) (pre : List α) (x : α) (W : World) (K : Act → World → Prop), (∃ hh, Inv pre hh ∧ ∃ hd', Rel (rfX X st hd w hBw) ⟨[], hh⟩ hd' ⟨#[], []⟩ W) →
      (∀ a' W', KeepsFrom w.heap.size W W' → KpT T w (badOf X.M0 st.h hd) W W' → (∃ hh, Inv pre hh ∧ ∃ hd', Rel (rfX X st hd w hBw) ⟨[], hh⟩ hd' ⟨#[], []⟩ W') → Ax x a' W' → K a' W') →
      ca.wpIn F m P (Exit.then K (fun _ _ _ => False)) { tmps := (ps'.zip ((enc x).toArray)).foldl (fun t (p, v) => t.setIfInBounds p v) a.tmps, defers := [] } W)
    (hslots : ∀ (x : α) (a' : Act) (W : World) (hh : List Blk) (hdI : Nat → Value) (pre : List α), Inv pre hh → Rel (rfX X st hd w hBw) ⟨[], hh⟩ hdI ⟨#[], []⟩ W → Ax x a' W → PW (AVR W (badOf X.M0 hh hdI) hh hdI) (slots x) a'.tmps.toList ∧ a'.defers = [])
    (hround : ∀ pre x h, pre.length < N → Inv pre h → AWp P opn st.h.length body (rfPost st.h.length (Inv (pre ++ [x])) (R (pre ++ [x]))) ⟨slots x, h⟩)
    (hdone : ∀ xs h, S xs → Inv xs h → Q .normal ⟨st.t, h⟩) (hstop : ∀ e pre h', Sp pre → R pre e h' → Q e ⟨st.t, h'⟩) :
    (Code.rangeFunc g' ps' ca cb).wpIn (Wd X.rd) n P (fun e a' w' => ∃ st' hd', Q e st' ∧ Rel X st' hd' a' w') a w := by
  -- what holds between rounds
  let X1 := rfX X st hd w hBw
  have hX1k : ∀ k o, X1.keep k o → k < X1.w0.heap.size := fun k o hk => (Array.getElem?_eq_some_iff.1 hk.1).1
  let I : List α → World → Prop := fun pre W => ∃ hh, Inv pre hh ∧ ∃ hd', Rel X1 ⟨[], hh⟩ hd' ⟨#[], []⟩ W
  let Ix : Code → List α → World → Prop := fun c pre W => ∃ e h' hd', (c = .ret ∧ e = .ret ∨ ∃ id, c = .exit id ∧ e = .exit id) ∧ R pre e h' ∧ Rel X1 ⟨[], h'⟩ hd' ⟨#[], []⟩ W
  have hI : OwnFrom w.heap.size I := fun s A B row hs hg hr => by
    obtain ⟨hh, hi, hd', r'⟩ := hs
    exact ⟨hh, hi, hd', r'.own rfl hX1k hg hr⟩
  have hIx : ∀ c, OwnFrom w.heap.size (Ix c) := fun c s A B row hs hg hr => by
    obtain ⟨e, h', hd', h1, h2, r'⟩ := hs
    exact ⟨e, h', hd', h1, h2, r'.own rfl hX1k hg hr⟩
  have hI0 : I [] w := ⟨st.h, hInv0, hd, Below.refl _ _, .nil, r.heap, Tr.refl _ _ _ _, fun k o hk => hk.1, Nat.zero_le _, [], rfl, List.nodup_nil, fun D hD => by cases hD⟩
  -- one round's body
  have hbody : ∀ (l : Nat) (pre : List α) (x : α) (a' : Act) (W : World), w.heap.size ≤ l → (∃ r, W.heap[l]? = some (.loop r)) → I pre W → Ax x a' W → pre.length < N →
      ∀ m, cb.wpIn (Wd (some l)) m P (ownPostG w.heap.size (KpT T w (badOf X.M0 st.h hd)) I Ix (pre ++ [x]) W) a' W := by
    rintro l pre x a' W hlw hl ⟨hh, hinv, hdI, rI⟩ hax hlen m
    have hTr : Tr w (badOf X.M0 st.h hd) st.h hd W (badOf X.M0 hh hdI) hh hdI := rI.tr
    have hBW : BW X W := ⟨Nat.le_trans hBw.1 rI.tr.size, rI.gb⟩
    let X2 := rdY X hh hdI W hBW l hl
    obtain ⟨hsl, hdf⟩ := hslots x a' W hh hdI pre hinv rI hax
    have r2 : Rel X2 ⟨slots x, hh⟩ hdI a' W := ⟨Below.refl _ _, hsl, rI.heap, Tr.refl _ _ _ _, fun k o hk => hk.1, Nat.le_refl _, [], by rw [hdf]; rfl, List.nodup_nil, fun D hD => by cases hD⟩
    refine wpIn_mono (hround pre x hh hlen hinv cb hcb X2 m hdI _ W (hT pre hh hinv).1 r2) ?_
    rintro e a3 W3 ⟨s, hd3, q, r3⟩
    have kf : KeepsFrom w.heap.size W W3 := ⟨r3.big, fun k o _ hk ho => r3.keeps k o ⟨hk, ho⟩⟩
    have kp : KpT T w (badOf X.M0 st.h hd) W W3 := by
      refine ⟨⟨r3.big, fun g hgl hnb cs t o hc => ?_⟩, fun g hgl cs t o ht hc => ?_⟩
      · have h1 := rI.tr.blk g hnb hgl
        have hTT := rI.tr.trans r3.tr
        have h3 := hTT.blk g hnb hgl
        exact (h3.trans h1.symm).trans hc
      · have hlt : g < W.heap.size := (Array.getElem?_eq_some_iff.1 hc).1
        refine (r3.tr.blk g ?_ hlt).trans hc
        rintro (hm | ⟨b, k, hk, _, ho⟩)
        · have := X.hM0 g hm; have := hBw.1
          omega
        · have hk' : hh[b]? = some k := hk
          obtain ⟨_, xs, ho', _⟩ := rI.heap.blk b k hk'
          rcases ho'.2 with ⟨h0, _⟩ | ⟨g', cap, cur, hh', _, hcx, _⟩
          · have ho2 : (hdI b).ownBlock = some g := ho
            rw [h0] at ho2; simp [Value.ownBlock] at ho2
          · have ho2 : (hdI b).ownBlock = some g := ho
            rw [hh'] at ho2; simp [Value.ownBlock] at ho2; subst ho2
            rw [hcx] at hc
            cases hc
            exact (hT pre hh hinv).2 k (List.mem_of_getElem? hk') ht
    have back : ∀ {s' : St} {hd' : Nat → Value}, Rel X2 s' hd' a3 W3 → Rel X1 ⟨[], s'.h⟩ hd' ⟨#[], []⟩ W3 := fun r4 =>
      ⟨rI.below.trans r4.below, .nil, r4.heap, rI.tr.trans r4.tr, fun k o hk => r4.keeps k o ⟨rI.keeps k o hk, hk.2⟩, Nat.zero_le _, [], rfl, List.nodup_nil, fun D hD => by cases hD⟩
    cases e with
    | normal =>
      obtain ⟨h3, hinv', t, hf⟩ := q
      obtain ⟨hd4, r4⟩ := hf X2 hd3 a3 W3 (hT pre hh hinv).1 r3
      exact ⟨kf, kp, h3, hinv', hd4, back r4⟩
    | ret => exact ⟨kf, .ret, s.h, hd3, .inl ⟨rfl, rfl⟩, q, back r3⟩
    | exit id => exact ⟨kf, .exit id, s.h, hd3, .inr ⟨id, rfl, rfl⟩, q, back r3⟩
    | goto t => exact q.elim
    | panic ch => exact q.elim
    | outgrown => exact q.elim
  -- behind the loop
  have fin : ∀ {h' : List Blk} {hd' : Nat → Value} {W : World} (ds : List Nat), (∀ D ∈ ds, w.heap.size ≤ D ∧ W.heap[D]? = some (.deferred (some []))) → ds.Nodup → Rel X1 ⟨[], h'⟩ hd' ⟨#[], []⟩ W → Rel X ⟨st.t, h'⟩ hd' { a with defers := ds.map markOf ++ a.defers } W := fun ds hds hnd r1 => by
    obtain ⟨Ds, hD, hN, hDs⟩ := r.marks
    refine ⟨r.below.trans r1.below, r.slots.mono (fun c v hc => hc.tr r1.tr), r1.heap, r.tr.trans r1.tr, fun k o hk => r1.keeps k o ⟨r.keeps k o hk, X.hkeep k o hk⟩, Nat.le_trans r.big r1.tr.size, ds ++ Ds, by simp [hD], ?_, fun D hDm => ?_⟩
    · refine List.nodup_append.2 ⟨hnd, hN, fun x hx y hy e => ?_⟩
      subst e
      have h1 := (hds x hx).1
      have h2 := (Array.getElem?_eq_some_iff.1 (hDs x hy).2).1
      omega
    · rcases List.mem_append.1 hDm with hm | hm
      · exact ⟨Nat.le_trans r.below.size (hds D hm).1, (hds D hm).2⟩
      · exact ⟨(hDs D hm).1, r1.keeps D _ ⟨(hDs D hm).2, rfl⟩⟩
  have hKt : ∀ {A B C : World}, KpT T w (badOf X.M0 st.h hd) A B → KpT T w (badOf X.M0 st.h hd) B C → KpT T w (badOf X.M0 st.h hd) A C := fun h k => h.trans k
  have hKb : ∀ (W : World) (l : Nat) (o o' : Obj), w.heap.size ≤ l → W.heap[l]? = some o → o.isCells = false → o.isWalk = false → KpT T w (badOf X.M0 st.h hd) W (W.putObj l o') := fun W l o o' hl ho hc hw =>
    ⟨⟨by simp [World.putObj], fun g hg _ cs t o2 hc2 => by rw [World.putObj_heap_other (by omega)]; exact hc2⟩, fun g hg cs t o2 _ hc2 => by
      by_cases e : g = l
      · subst e; rw [ho] at hc2; cases hc2; cases hc
      · rw [World.putObj_heap_other e]; exact hc2⟩
  have stop : ∀ {c : Code} {e : Exit} {a' : Act} {W : World} {m : Nat} {Q' : Exit → Act → World → Prop}, (c = .ret ∧ e = .ret ∨ ∃ id, c = .exit id ∧ e = .exit id) → Q' e a' W → c.wpIn (Wd X.rd) m P Q' a' W := fun hce hq => by
    rcases hce with ⟨rfl, rfl⟩ | ⟨id, rfl, rfl⟩
    · exact wpIn_ret hq
    · exact wpIn_exit hq
  cases hrd : X.rd with
  | none =>
    refine wd_n (n := 5) ?_ n
    refine wpIn_rangeFunc_ownH (F := Wd none) rfl (by omega) hev trivial (fun args w => hcall args w) (hseq 4) (fun h k => hKt h k) hKb (Below.refl _ _) hps I Ix hI hIx hI0 Ax hAx
      (fun l pre x W K hi hK => hassign _ l pre x W K hi hK) (fun l pre x a' W hlw hl hi ha hlen => hbody l pre x a' W hlw hl hi ha hlen _) ?_ ?_
    · rintro D xs W hD hS ⟨hh, hinv, hd', r1⟩ hWD
      exact ⟨_, hd', hdone xs hh hS hinv, fin [D] (fun D' hD' => by simp at hD'; subst hD'; exact ⟨hD, hWD⟩) (by simp) r1⟩
    · rintro D c pre W hD hSp ⟨e, h', hd', hce, hR, r1⟩ hWD
      have hst := stop (m := 5) (a' := { a with defers := { target := .collected D, args := #[] } :: a.defers }) (W := W) (Q' := fun e a' w' => ∃ st' hd', Q e st' ∧ Rel X st' hd' a' w') hce ⟨_, hd', hstop e pre h' hSp hR, fin [D] (fun D' hD' => by simp at hD'; subst hD'; exact ⟨hD, hWD⟩) (by simp) r1⟩
      rw [hrd] at hst
      exact hst
  | some l₀ =>
    obtain ⟨r₀, hk₀⟩ := X.hrd l₀ hrd
    have hl₀ := r.keeps _ _ hk₀
    refine wd_n (n := 5) ?_ n
    refine wpIn_rangeFunc_ownN (F := Wd (some l₀)) rfl hl₀ (by omega) hev trivial (fun args w => hcall args w) (SeqStopsK.inRound l₀ (hseq 4)) (fun h k => hKt h k) hKb (Below.refl _ _) hps I Ix hI hIx hI0 Ax hAx
      (fun l pre x W K hi hK => hassign _ l pre x W K hi hK) (fun l pre x a' W hlw hl hi ha hlen => hbody l pre x a' W hlw hl hi ha hlen _) ?_ ?_
    · rintro xs W hS ⟨hh, hinv, hd', r1⟩
      exact ⟨_, hd', hdone xs hh hS hinv, fin [] (fun D' hD' => by cases hD') (by simp) r1⟩
    · rintro c pre W hSp ⟨e, h', hd', hce, hR, r1⟩
      have hst := stop (m := 5) (a' := a) (W := W) (Q' := fun e a' w' => ∃ st' hd', Q e st' ∧ Rel X st' hd' a' w') hce ⟨_, hd', hstop e pre h' hSp hR, fin [] (fun D' hD' => by cases hD') (by simp) r1⟩
      rw [hrd] at hst
      exact hst

theorem awp_rfT {T : Nat → Prop} {α : Type} {g : Operand} {ps : List Tmp} {ms : List (Tmp × Tmp)} {body : CC} {Q : Exit → St → Prop} {gf : FuncId} {caps : List Cell} (hg : st.ev g = .one (.fn gf caps)) (hcaps : ∀ c ∈ caps, closedCell c = true) {encs : α → List AV} {S Sp : List α → Prop} {N : Nat}
    (hit : IterT T P gf caps encs ps.length S Sp N) (Inv : List α → List Blk → Prop) (hInv0 : Inv [] st.h) (hT : ∀ pre hh, Inv pre hh → hh.length = st.h.length ∧ ∀ k ∈ hh, ¬ T k.ty) (R : List α → Exit → List Blk → Prop)
    (hround : ∀ pre x h, pre.length < N → Inv pre h → AWp P opn st.h.length body (rfPost st.h.length (Inv (pre ++ [x])) (R (pre ++ [x]))) ⟨mvT ms (setps ps (encs x) st.t), h⟩)
    (hdone : ∀ xs h, S xs → Inv xs h → Q .normal ⟨st.t, h⟩) (hstop : ∀ e pre h', Sp pre → R pre e h' → Q e ⟨st.t, h'⟩) : AWp P opn n0 (.rf g ps ms body) Q st := by
  intro code hc X n hd a w hX r
  cases code with
  | rangeFunc g' ps' ca cb =>
    simp only [ccode] at hc
    split at hc
    · rename_i ms' b' hms hcb
      simp only [Option.some.injEq, CC.rf.injEq] at hc
      obtain ⟨rfl, rfl, rfl, rfl⟩ := hc
      have hBw : BW X w := r.bw
      -- the iterator
      have hgv := r.sees g'
      rw [hg] at hgv
      obtain ⟨hcall, hnp, hit⟩ := hit
      have hbadlt : ∀ g, badOf X.M0 st.h hd g → g < w.heap.size := fun g hg => by
        rcases hg with hm | ⟨b, k, hk, _, hb⟩
        · exact r.M0_lt g hm
        · exact (r.heap.lt hk hb).2
      obtain ⟨vs, hev, hvs⟩ : ∃ vs : List Value, a.eval g' = .func (.func gf) #[] vs.toArray ∧ PW (VR w (badOf X.M0 st.h hd) [] hd00) caps vs := by
        generalize a.eval g' = u at hgv
        cases hgv with
        | one _ _ hx =>
          cases hx with
          | fn _ _ vs hl hv => exact ⟨vs, rfl, hl, fun i c v h1 h2 => (hv i c v h1 h2).closed (hcaps c (List.mem_of_getElem? h1))⟩
      obtain ⟨enc, henc, hseq⟩ := hit w _ vs ⟨hbadlt, r.gbad⟩ hvs
      have hps : ∀ x, ((enc x).toArray).size = ps'.size := fun x => by
        have h1 := (henc x).1
        have h2 := hnp x
        simp only [List.size_toArray]
        rw [← h1, h2]
        simp
      refine rf_coreT hcb r hev hcall hseq hps Inv hInv0 hT R (fun x => mvT ms' (setps ps'.toList (encs x) st.t)) hBw (fun x a' _ => a' = mvA ms' { tmps := (ps'.zip ((enc x).toArray)).foldl (fun t (p, v) => t.setIfInBounds p v) a.tmps, defers := [] }) (fun _ _ _ _ _ _ hs _ _ => hs)
        (fun F m l pre x W K hi hK => moves_ok _ hms (hK _ _ (KeepsFrom.refl _ _) KpT.refl hi rfl)) ?_ hround hdone hstop
      rintro x a' W hh hdI pre hinv rI rfl
      have hTr : Tr w (badOf X.M0 st.h hd) st.h hd W (badOf X.M0 hh hdI) hh hdI := rI.tr
      refine ⟨mv_pw ms' _ _ ?_, by rw [mvA_defers]⟩
      exact setps_eval henc r.slots hTr
    · cases hc
    · cases hc
  | region id ops drawn => simp only [ccode] at hc; rcases regCC_kind hc with ⟨_, h⟩ | ⟨_, _, h⟩ <;> cases h
  | seq c x => simp only [ccode] at hc; split at hc <;> cases hc
  | cond c x y => simp only [ccode] at hc; split at hc <;> cases hc
  | block id c => simp [ccode] at hc
  | scope c => simp [ccode] at hc
  | loop c => simp [ccode] at hc
  | _ => cases hc


/-- A range over a function that is gone through whole. -/
theorem awp_foldT {T : Nat → Prop} {α β : Type} {g : Operand} {ps : List Tmp} {ms : List (Tmp × Tmp)} {body : CC} {gf : FuncId} {caps : List Cell} {encs : α → List AV} {L : List α} {Sp : List α → Prop} {N : Nat} {Q : Exit → St → Prop}
    (hit : IterT T P gf caps encs ps.length (fun xs => xs = L) Sp N) (hg : st.ev g = .one (.fn gf caps)) (hcaps : ∀ c ∈ caps, closedCell c = true)
    (H : β → List Blk) (f : β → α → β) (I : Nat → β → Prop) (b0 : β) (hH0 : st.h = H b0) (hI0 : I 0 b0) (hTy : ∀ b, (H b).length = st.h.length ∧ ∀ k ∈ H b, ¬ T k.ty)
    (hround : ∀ i b x, i < N → I i b → AWp P opn st.h.length body (rfPost st.h.length (fun h' => h' = H (f b x) ∧ I (i + 1) (f b x)) (fun _ _ => False)) ⟨mvT ms (setps ps (encs x) st.t), H b⟩)
    (hdone : I L.length (L.foldl f b0) → Q .normal ⟨st.t, H (L.foldl f b0)⟩) : AWp P opn n0 (.rf g ps ms body) Q st := by
  refine awp_rfT hg hcaps hit (fun pre h => h = H (pre.foldl f b0) ∧ I pre.length (pre.foldl f b0)) ⟨hH0, hI0⟩ (fun pre hh h => by rw [h.1]; exact hTy _) (fun _ _ _ => False) ?_ ?_ (fun _ _ _ _ h => h.elim)
  · rintro pre x h hlen ⟨rfl, hi⟩
    have := hround pre.length _ x hlen hi
    simpa only [List.foldl_append, List.foldl_cons, List.foldl_nil, List.length_append, List.length_cons, List.length_nil, Nat.zero_add] using this
  · rintro xs h rfl ⟨rfl, hi⟩
    exact hdone hi

end Go.Am
set_option linter.unusedSimpArgs false
set_option linter.unusedVariables false
namespace Go.Am
open Go.RowKit Go.Off

variable {GL : Glb}
variable {P : Program} {opn : List FuncId} {K : St → Prop}

theorem call_val_g {t : List AV} {h : List Blk} {dst : Option Tmp} {x : Tmp} {want : Bool} {f : FuncId} {fo : Operand} {args : List Operand} {as cas : List AV} {av : AV} {os : List CO} (hp : PureC P f cas (.ret av)) (ha : callArgs ⟨t, h⟩ fo args = some (f, as)) (hg : guardWant ⟨t, h⟩ x want = some true) (hcl : as.mapM (closeAV h 3) = some cas)
    (hu : (as.map (usedAV h 3)).flatten = []) (hk : evalOps P opn os ⟨putT t dst av, h⟩ K) : callGo P opn ⟨dst, some (x, want), .callf fo args⟩ os ⟨t, h⟩ K := by
  unfold callGo
  rw [evalOps_cons]
  have e1 : pureRes h [] (.ret av) = (av, h) := by simp only [pureRes, freeze_nil]; split <;> rfl
  simp only [hg, if_true]
  exact ⟨av, h, ⟨f, as, ha, .inl ⟨cas, .ret av, hcl, hp, by rw [hu]; exact e1.symm⟩⟩, hk⟩

end Go.Am
