/- The framework, part 3: when a world is as a symbolic state says; contracts; what must be shown. -/
import Derived.Test.YtnampnnphgedhaaDoorFwB
set_option linter.all false
namespace Go.Fw
open Go

/-- What a proof is about: the program, the variables that are known, the results' places, what is to be shown of the results. -/
structure Sx where
  P : Program
  gp : Heap
  np : Nat
  rs : List RV
  R : V → List Ch → Prop
  rd : Bool

/-- The activation: what was known when it began, what it may not turn, its first world, its round. -/
structure Dyn where
  H0 : Heap
  an0 : Anc
  U : Nat → Prop
  w0 : World
  round : Option Nat

def mark (r : Nat) : Deferred := { target := .collected r, args := #[] }

structure SatX (S : Sx) (Y : Dyn) (s : St) (a : Act) (w : World) (H : Heap) (an : Anc) (F : Nat → Nat → Prop) (ms : List Nat) : Prop where
  gp : Heap.Le S.gp H
  h0 : Heap.Le Y.H0 H
  mod : Models w H
  fr : All2 (DenV H an) s.fr a.tmps.toList
  anc : ∀ i, (∃ p, an i = some p) ↔ i < s.own.length
  own : ∀ i c, s.own[i]? = some c → ∃ p, an i = some p ∧ SatCh H an w c p (F i)
  fl : ∀ i b, F i b → i < s.own.length
  fp : ∀ i b, F i b → b < w.heap.size ∧ H b = none ∧ ¬ Y.U b
  dj : ∀ i j b, F i b → F j b → i = j
  hn : ∀ b o, H b = some o → Y.H0 b = some o ∨ ¬ Y.U b
  ub : ∀ b, Y.U b → b < Y.w0.heap.size ∧ w.heap[b]? = Y.w0.heap[b]?
  os : w.os = Y.w0.os
  tape : w.tape = Y.w0.tape
  output : w.output = Y.w0.output
  size : Y.w0.heap.size ≤ w.heap.size
  df : a.defers = ms.map mark
  mks : ∀ r ∈ ms, w.heap[r]? = some (.deferred (some [])) ∧ H r = none ∧ ¬ Y.U r ∧ ∀ i, ¬ F i r
  nd : ms.Nodup
  al : Anc.Le Y.an0 an
  npl : ∀ i p, Y.an0 i = some p → i < S.np
  ro : S.rd = true ∨ Y.round = none

def Sat (S : Sx) (Y : Dyn) (s : St) (a : Act) (w : World) : Prop := ∃ H an F ms, SatX S Y s a w H an F ms

/-- From world to world: but for some blocks all lies as it lay. -/
structure WKeep (w w' : World) (may : Nat → Prop) : Prop where
  os : w'.os = w.os
  tape : w'.tape = w.tape
  output : w'.output = w.output
  size : w.heap.size ≤ w'.heap.size
  block : ∀ b, b < w.heap.size → ¬ may b → w'.heap[b]? = w.heap[b]?

theorem WKeep.refl (w : World) (may : Nat → Prop) : WKeep w w may := ⟨rfl, rfl, rfl, Nat.le_refl _, fun _ _ _ => rfl⟩
theorem WKeep.drawn (w : World) (n : Nat) (may : Nat → Prop) : WKeep w { w with drawn := n } may := ⟨rfl, rfl, rfl, Nat.le_refl _, fun _ _ _ => rfl⟩
theorem WKeep.trans {a b c : World} {may : Nat → Prop} (h : WKeep a b may) (k : WKeep b c may) : WKeep a c may :=
  ⟨k.os.trans h.os, k.tape.trans h.tape, k.output.trans h.output, Nat.le_trans h.size k.size, fun i hi hm => (k.block i (Nat.lt_of_lt_of_le hi h.size) hm).trans (h.block i hi hm)⟩
theorem WKeep.mono {a b : World} {may may' : Nat → Prop} (h : WKeep a b may) (k : ∀ i, may i → may' i) : WKeep a b may' :=
  ⟨h.os, h.tape, h.output, h.size, fun i hi hm => h.block i hi (fun x => hm (k i x))⟩
theorem WKeep.push (w : World) (o : Obj) (may : Nat → Prop) : WKeep w { w with heap := w.heap.push o } may :=
  ⟨rfl, rfl, rfl, by simp, fun b hb _ => by
    show (w.heap.push o)[b]? = _
    rw [Array.getElem?_push, if_neg (by omega)]⟩

section
variable {S : Sx} {Y : Dyn} {s : St} {a : Act} {w w' : World} {H H' : Heap} {an an' : Anc} {F F' : Nat → Nat → Prop} {ms : List Nat} {may : Nat → Prop}

/-- THE STEP: the world turns in own chunks alone; chunks, anchors, what is known go on. -/
theorem SatX.evolve (h : SatX S Y s a w H an F ms) {own' : List Ch} (hw : WKeep w w' may) (hmay : ∀ b, may b → ∃ i, F i b)
    (hH : Heap.Le H H') (hmod : Models w' H') (hnew : ∀ b o, H' b = some o → H b = some o ∨ w.heap.size ≤ b ∨ ∃ i, F i b)
    (ha : Anc.Le an an') (han : ∀ i, (∃ p, an' i = some p) ↔ i < own'.length)
    (hown : ∀ i c, own'[i]? = some c → ∃ p, an' i = some p ∧ SatCh H' an' w' c p (F' i))
    (hF : ∀ i b, F' i b → i < own'.length ∧ b < w'.heap.size ∧ H' b = none ∧ (w.heap.size ≤ b ∨ ∃ j, F j b))
    (hdj : ∀ i j b, F' i b → F' j b → i = j) : SatX S Y { s with own := own' } a w' H' an' F' ms where
  gp := h.gp.trans hH
  h0 := h.h0.trans hH
  mod := hmod
  fr := All2.mono (fun _ _ => DenV.mono hH ha) h.fr
  anc := han
  own := hown
  fl := fun i b hb => (hF i b hb).1
  fp := fun i b hb => by
    obtain ⟨_, h1, h2, h3⟩ := hF i b hb
    refine ⟨h1, h2, ?_⟩
    rcases h3 with h3 | ⟨j, h3⟩
    · intro hu; have := (h.ub b hu).1; have := h.size; omega
    · exact (h.fp j b h3).2.2
  dj := hdj
  hn := fun b o hb => by
    rcases hnew b o hb with h1 | h1 | ⟨i, h1⟩
    · exact h.hn b o h1
    · exact .inr fun hu => by have := (h.ub b hu).1; have := h.size; omega
    · exact .inr (h.fp i b h1).2.2
  ub := fun b hu => by
    obtain ⟨h1, h2⟩ := h.ub b hu
    exact ⟨h1, (hw.block b (Nat.lt_of_lt_of_le h1 h.size) (fun hm => by obtain ⟨i, hi⟩ := hmay b hm; exact (h.fp i b hi).2.2 hu)).trans h2⟩
  os := hw.os.trans h.os
  tape := hw.tape.trans h.tape
  output := hw.output.trans h.output
  size := Nat.le_trans h.size hw.size
  df := h.df
  mks := fun r hr => by
    obtain ⟨h1, h2, h3, h4⟩ := h.mks r hr
    have hlt : r < w.heap.size := (Array.getElem?_eq_some_iff.1 h1).1
    refine ⟨(hw.block r hlt (fun hm => by obtain ⟨i, hi⟩ := hmay r hm; exact h4 i hi)).trans h1, ?_, h3, fun i hi => ?_⟩
    · cases e : H' r with
      | none => rfl
      | some o =>
        rcases hnew r o e with h5 | h5 | ⟨i, h5⟩
        · rw [h2] at h5; cases h5
        · omega
        · exact absurd h5 (h4 i)
    · obtain ⟨_, _, _, h5⟩ := hF i r hi
      rcases h5 with h5 | ⟨j, h5⟩
      · omega
      · exact h4 j h5
  nd := h.nd
  al := h.al.trans ha
  npl := h.npl
  ro := h.ro

/-- Nothing but the world's draws, and blocks beyond, turn; more may be known. -/
theorem SatX.grow (h : SatX S Y s a w H an F ms) (hw : WKeep w w' (fun _ => False)) (hH : Heap.Le H H') (hmod : Models w' H')
    (hnew : ∀ b o, H' b = some o → H b = some o ∨ w.heap.size ≤ b) : SatX S Y s a w' H' an F ms := by
  refine h.evolve (own' := s.own) (may := fun _ => False) hw (fun _ hb => hb.elim) hH hmod (fun b o hb => (hnew b o hb).imp id .inl) (Anc.Le.refl _) h.anc ?_ ?_ h.dj
  · intro i c hc
    obtain ⟨p, hp, hs⟩ := h.own i c hc
    exact ⟨p, hp, hs.keep hH (Anc.Le.refl _) (fun x hx => hw.block x (h.fp i x hx).1 (fun hm => hm))⟩
  · intro i b hb
    obtain ⟨h1, h2, h3⟩ := h.fp i b hb
    refine ⟨h.fl i b hb, Nat.lt_of_lt_of_le h1 hw.size, ?_, .inr ⟨i, hb⟩⟩
    cases e : H' b with
    | none => rfl
    | some o =>
      rcases hnew b o e with h5 | h5
      · rw [h2] at h5; cases h5
      · omega

theorem SatX.drawn (h : SatX S Y s a w H an F ms) (n : Nat) : SatX S Y s a { w with drawn := n } H an F ms :=
  h.grow (WKeep.drawn w n _) (Heap.Le.refl _) h.mod (fun _ _ hb => .inl hb)

/-- More known: a new block. -/
def Heap.put (H : Heap) (b : Nat) (o : Obj) : Heap := fun i => if i = b then some o else H i
theorem Heap.put_le {H : Heap} {b : Nat} {o : Obj} (h : H b = none) : Heap.Le H (H.put b o) := fun i x hx => by
  unfold Heap.put
  split
  · rename_i e; subst e; rw [h] at hx; cases hx
  · exact hx

theorem SatX.none_new (h : SatX S Y s a w H an F ms) {b : Nat} (hb : w.heap.size ≤ b) : H b = none := by
  cases e : H b with
  | none => rfl
  | some o => have := h.mod b o e; rw [Array.getElem?_eq_none hb] at this; cases this

theorem SatX.push_known (h : SatX S Y s a w H an F ms) (o : Obj) :
    SatX S Y s a { w with heap := w.heap.push o } (H.put w.heap.size o) an F ms := by
  refine h.grow (WKeep.push w o _) (Heap.put_le (h.none_new (Nat.le_refl _))) ?_ ?_
  · intro b x hx
    show (w.heap.push o)[b]? = some x
    unfold Heap.put at hx
    split at hx
    · rename_i e; subst e; simpa using hx
    · have := h.mod b x hx
      rw [Array.getElem?_push, if_neg (by have := (Array.getElem?_eq_some_iff.1 this).1; omega)]
      exact this
  · intro b x hx
    unfold Heap.put at hx
    split at hx
    · rename_i e; exact .inr (by omega)
    · exact .inl hx

/-- A new own chunk. -/
def Anc.put (an : Anc) (i : Nat) (p : Nat × Value) : Anc := fun j => if j = i then some p else an j
theorem SatX.push_own (h : SatX S Y s a w H an F ms) (o : Obj) (c : Ch) (p : Nat × Value)
    (hc : SatCh H (an.put s.own.length p) { w with heap := w.heap.push o } c p (fun x => x = w.heap.size)) :
    SatX S Y { s with own := s.own ++ [c] } a { w with heap := w.heap.push o } H (an.put s.own.length p)
      (fun i b => if i = s.own.length then b = w.heap.size else F i b) ms := by
  have hle : Anc.Le an (an.put s.own.length p) := ⟨fun i q hq => by
    refine ⟨q, ?_, .inl rfl⟩
    unfold Anc.put
    rw [if_neg (by have := (h.anc i).1 ⟨q, hq⟩; omega)]
    exact hq⟩
  have hk := WKeep.push w o (fun _ => False)
  have hmod : Models { w with heap := w.heap.push o } H := fun b x hx => by
    have := h.mod b x hx
    exact (hk.block b (Array.getElem?_eq_some_iff.1 this).1 (fun x => x)).trans this
  refine h.evolve (may := fun _ => False) hk (fun _ hb => hb.elim) (Heap.Le.refl _) hmod (fun b o hb => .inl hb) hle ?_ ?_ ?_ ?_
  · intro i
    unfold Anc.put
    by_cases e : i = s.own.length
    · subst e; simp
    · rw [if_neg e, h.anc i]; simp; omega
  · intro i c' hc'
    by_cases e : i = s.own.length
    · subst e
      rw [List.getElem?_append_right (Nat.le_refl _)] at hc'
      simp at hc'
      subst hc'
      refine ⟨p, by simp [Anc.put], ?_⟩
      simpa using hc
    · have hlt : i < s.own.length := by
        have := (List.getElem?_eq_some_iff.1 hc').1
        simp at this
        omega
      rw [List.getElem?_append_left hlt] at hc'
      obtain ⟨q, hq, hs⟩ := h.own i c' hc'
      refine ⟨q, by simp [Anc.put, e, hq], ?_⟩
      have := hs.keep (w' := { w with heap := w.heap.push o }) (Heap.Le.refl _) hle (fun x hx => hk.block x (h.fp i x hx).1 (fun x => x))
      simpa [e] using this
  · intro i b hb
    by_cases e : i = s.own.length
    · simp only [e, if_true] at hb
      subst hb
      exact ⟨by simp [e], by simp, h.none_new (Nat.le_refl _), .inl (Nat.le_refl _)⟩
    · simp only [e, if_false] at hb
      obtain ⟨h1, h2, h3⟩ := h.fp i b hb
      exact ⟨by have := h.fl i b hb; simp; omega, by simp; omega, h2, .inr ⟨i, hb⟩⟩
  · intro i j b hi hj
    by_cases e : i = s.own.length <;> by_cases e' : j = s.own.length
    · omega
    · simp only [e, if_true] at hi; simp only [e', if_false] at hj
      have := (h.fp j b hj).1; omega
    · simp only [e', if_true] at hj; simp only [e, if_false] at hi
      have := (h.fp i b hi).1; omega
    · simp only [e, if_false] at hi; simp only [e', if_false] at hj
      exact h.dj i j b hi hj

/-- An own chunk turns: its one block holds another object. -/
theorem SatX.set_own (h : SatX S Y s a w H an F ms) {i b : Nat} {c : Ch} {p : Nat × Value} (hi : an i = some p) (hFi : ∀ x, F i x ↔ x = b)
    (hw : WKeep w w' (fun x => x = b)) (hc : SatCh H an w' c p (F i)) : SatX S Y { s with own := s.own.set i c } a w' H an F ms := by
  have hb : F i b := (hFi b).2 rfl
  have hmod : Models w' H := fun x o hx => by
    have h1 := h.mod x o hx
    refine (hw.block x (Array.getElem?_eq_some_iff.1 h1).1 (fun e => ?_)).trans h1
    subst e
    rw [(h.fp i x hb).2.1] at hx; cases hx
  refine h.evolve (may := fun x => x = b) hw (fun x e => ⟨i, by subst e; exact hb⟩) (Heap.Le.refl _) hmod (fun b o hb => .inl hb) (Anc.Le.refl _) ?_ ?_ ?_ h.dj
  · intro j; rw [List.length_set]; exact h.anc j
  · intro j c' hc'
    rw [List.getElem?_set] at hc'
    by_cases e : i = j
    · subst e
      simp only [if_true] at hc'
      split at hc'
      · cases hc'; exact ⟨p, hi, hc⟩
      · cases hc'
    · rw [if_neg e] at hc'
      obtain ⟨q, hq, hs⟩ := h.own j c' hc'
      exact ⟨q, hq, hs.keep (Heap.Le.refl _) (Anc.Le.refl _) (fun x hx => hw.block x (h.fp j x hx).1 (fun e' => by subst e'; exact e (h.dj i j x hb hx)))⟩
  · intro j x hx
    obtain ⟨h1, h2, h3⟩ := h.fp j x hx
    exact ⟨by rw [List.length_set]; exact h.fl j x hx, Nat.lt_of_lt_of_le h1 hw.size, h2, .inr ⟨j, hx⟩⟩

/-- The frame. -/
theorem All2_setV {R : V → Value → Prop} : ∀ (l : List V) (m : List Value) (d : Nat) (v : V) (u : Value), All2 R l m → R v u → All2 R (setV l d v) (m.set d u)
  | [], [], _, _, _, _, _ => by simp [setV, All2]
  | _ :: _, _ :: _, 0, _, _, h, k => ⟨k, h.2⟩
  | _ :: l, _ :: m, d + 1, v, u, h, k => ⟨h.1, All2_setV l m d v u h.2 k⟩

theorem SatX.put (h : SatX S Y s a w H an F ms) (d : Option Nat) {v : V} {u : Value} (hv : DenV H an v u) :
    SatX S Y { s with fr := putV s.fr d v } (a.put d u) w H an F ms := by
  cases d with
  | none => exact h
  | some d =>
    have hfr : All2 (DenV H an) (setV s.fr d v) (a.put (some d) u).tmps.toList := by
      have := All2_setV s.fr a.tmps.toList d v u h.fr hv
      simpa [Act.put] using this
    exact ⟨h.gp, h.h0, h.mod, hfr, h.anc, h.own, h.fl, h.fp, h.dj, h.hn, h.ub, h.os, h.tape, h.output, h.size, h.df, h.mks, h.nd, h.al, h.npl, h.ro⟩

theorem getV_some : ∀ (l : List V) (t : Nat) (v : V), getV l t = v → v ≠ .un → l[t]? = some v
  | [], _, _, h, hn => absurd h.symm (by simpa [getV] using hn)
  | _ :: _, 0, _, h, _ => by simpa [getV] using h
  | _ :: l, t + 1, v, h, hn => by simpa using getV_some l t v (by simpa [getV] using h) hn

/-- What an operand reads. -/
theorem dOf_den (H : Heap) {v : Value} {x : D} (h : dOf v = some x) : Den H x v := by
  unfold dOf at h
  split at h <;> cases h
  · exact .int _ _
  · exact .bool _
  · exact .str _
  · exact .slE none 0
  · exact .nilI
  · exact .nilF
  · exact .nilP
  · exact .raw _ rfl
theorem dsOf_den (H : Heap) : ∀ {l : List Value} {m : List D}, dsOf l = some m → All2 (Den H) m l
  | [], m, h => by simp [dsOf] at h; subst h; trivial
  | v :: l, m, h => by
    simp only [dsOf] at h
    cases e : dOf v with
    | none => simp [e] at h
    | some x =>
      cases e' : dsOf l with
      | none => simp [e, e'] at h
      | some r => simp [e, e'] at h; subst h; exact ⟨dOf_den H e, dsOf_den H e'⟩
theorem dOf_denA (H : Heap) (an : Anc) {v : Value} {x : D} (h : dOf v = some x) : DenA H an (A.ofZ x) v := by
  unfold dOf at h
  split at h <;> cases h
  · exact Den.int _ _
  · exact Den.bool _
  · exact Den.str _
  · exact ⟨none, rfl⟩
  · exact Den.nilI
  · exact Den.nilF
  · exact Den.nilP
  · exact Den.raw _ rfl
theorem dsOf_denA (H : Heap) (an : Anc) : ∀ {l : List Value} {m : List D}, dsOf l = some m → All2 (DenA H an) (m.map A.ofZ) l
  | [], m, h => by simp [dsOf] at h; subst h; trivial
  | v :: l, m, h => by
    simp only [dsOf] at h
    cases e : dOf v with
    | none => simp [e] at h
    | some x =>
      cases e' : dsOf l with
      | none => simp [e, e'] at h
      | some r => simp [e, e'] at h; subst h; exact ⟨dOf_denA H an e, dsOf_denA H an e'⟩
theorem vOf_den (H : Heap) (an : Anc) (v : Value) : DenV H an (vOf v) v := by
  unfold vOf
  split
  · rename_i cs
    split
    · rename_i l hl
      refine ⟨cs.toList, by simp, ?_⟩
      exact dsOf_denA H an hl
    · trivial
  · split
    · rename_i x hx
      exact dOf_denA H an hx
    · trivial

theorem SatX.ev (h : SatX S Y s a w H an F ms) (x : Operand) : DenV H an (evO s.fr (opdOf x)) (a.eval x) := by
  cases x with
  | tmp t =>
    show DenV H an (getV s.fr t) (a.tmps.getD t undef)
    cases e : getV s.fr t with
    | un => trivial
    | one x =>
      obtain ⟨u, hu, hd⟩ := h.fr.get (getV_some _ _ _ e (by simp))
      have : a.tmps.getD t undef = u := by simp [Array.getD_eq_getD_getElem?]; rw [← Array.getElem?_toList, hu]; rfl
      rw [this]; exact hd
    | agg x =>
      obtain ⟨u, hu, hd⟩ := h.fr.get (getV_some _ _ _ e (by simp))
      have : a.tmps.getD t undef = u := by simp [Array.getD_eq_getD_getElem?]; rw [← Array.getElem?_toList, hu]; rfl
      rw [this]; exact hd
    | tup x =>
      obtain ⟨u, hu, hd⟩ := h.fr.get (getV_some _ _ _ e (by simp))
      have : a.tmps.getD t undef = u := by simp [Array.getD_eq_getD_getElem?]; rw [← Array.getElem?_toList, hu]; rfl
      rw [this]; exact hd
  | const v => exact vOf_den H an v
  | global g => exact Den.raw (H := H) (.pointer (some ⟨g, 0, none⟩)) rfl
  | func f => exact Den.fn (H := H) (.func f) [] [] rfl (by simp)
end

/-- Chunks that a chunk leads to. -/
def Ch.refs : Ch → List Nat
  | .cells cs => cs.flatMap A.refs
  | .map es => es.flatMap fun e => e.1.refs ++ e.2.refs
  | .lp _ fr _ _ _ => fr.flatMap V.refsT
  | _ => []
/-! ### Contracts -/
/-- THE GENERAL CONTRACT: handed values, and own chunks that they lead to, the call returns values, and leaves chunks. -/
def Tri (P : Program) (gp : Heap) (f : FuncId) (args : List V) (pre : List Ch) (R : V → List Ch → Prop) : Prop :=
  ∀ (H : Heap) (w : World) (an : Anc) (F : Nat → Nat → Prop) (vs : List Value), Heap.Le gp H → Models w H →
    (∀ i, (∃ p, an i = some p) ↔ i < pre.length) →
    (∀ i c, pre[i]? = some c → ∃ p, an i = some p ∧ SatCh H an w c p (F i)) → (∀ i b, F i b → i < pre.length ∧ b < w.heap.size ∧ H b = none) → (∀ i j b, F i b → F j b → i = j) →
    All2 (DenV H an) args vs →
    Calls P f vs.toArray w fun e w' => ∃ (v : Value) (res : V) (post : List Ch) (H' : Heap) (an' : Anc) (F' : Nat → Nat → Prop), e = .returned v ∧ R res post ∧
      WKeep w w' (fun b => ∃ i, F i b) ∧ Heap.Le H H' ∧ Models w' H' ∧ (∀ b o, H' b = some o → H b = some o ∨ w.heap.size ≤ b ∨ ∃ i, F i b) ∧
      Anc.Le an an' ∧ (∀ i, (∃ p, an' i = some p) ↔ i < post.length) ∧ (∀ i c, post[i]? = some c → ∃ p, an' i = some p ∧ SatCh H' an' w' c p (F' i)) ∧
      (∀ i b, F' i b → i < post.length ∧ b < w'.heap.size ∧ H' b = none ∧ (w.heap.size ≤ b ∨ ∃ j, F j b)) ∧ (∀ i j b, F' i b → F' j b → i = j) ∧ DenV H' an' res v

/-- May a function be called, and walked into? -/
def callable (P : Program) (f : FuncId) : Bool := match P.funcs[f]? with
  | some fn => fn.body.isSome && !(fn.name == "runtime.NumGoroutine")
  | none => false
/-- A contract of a function of data: just this comes back. -/
def Does (P : Program) (gp : Heap) (f : FuncId) (args : List V) (res : V) : Prop := callable P f = true ∧ Tri P gp f args [] fun r c => r = res ∧ c = []

/-- A part that is not looked into until it is opened. -/
class Held where
  p : Prop
structure later [h : Held] : Prop where
  intro ::
  get : h.p
theorem later_iff (p : Prop) : @later ⟨p⟩ ↔ p := ⟨fun h => @later.get ⟨p⟩ h, fun h => @later.intro ⟨p⟩ h⟩

/-! ### What is still to be done -/
inductive MI where
  | code (m : MC)
  | blk (id : Nat)
  | again (p : St → Prop)
  | rnd (p : Exit → St → Prop)
  | fin

/-- What a result is. -/
def resV (s : St) : RV → Option V
  | .t n => (match getV s.fr n with
    | .tup _ => none
    | v => some v)
  | .cell n sz ag => match getV s.fr n with
    | .one (.ptr i off) => (match getC s.own i with
      | .cells cs => if off + sz ≤ cs.length then some (mkV ag ((cs.drop off).take sz)) else none
      | _ => none)
    | _ => none
def resL (s : St) : List RV → Option (List V)
  | [] => some []
  | r :: l => match resV s r, resL s l with
    | some x, some m => some (x :: m)
    | _, _ => none
def resVs (s : St) : List RV → Option V
  | [r] => resV s r
  | l => match resL s l with
    | some m => some (.tup m)
    | none => none

def fence (r : Option Nat) : Fence := { Fence.wide with round := r }

/-- What the rest of a body is to come to. -/
def FinX (S : Sx) (Y : Dyn) (a : Act) (w : World) : Prop := ∃ s res, Sat S Y s a w ∧ resVs s S.rs = some res ∧ (S.R res.nrm2 s.own ∨ (S.np = 0 ∧ res.refsT = [] ∧ S.R res.nrm2 []))

def Mx (S : Sx) (Y : Dyn) : List MI → Exit → Act → World → Prop
  | [], _, _, _ => False
  | .fin :: _, e, a, w => (e = .normal ∨ e = .ret) ∧ FinX S Y a w
  | .rnd p :: _, e, a, w => (e = .normal ∨ e = .ret ∨ ∃ id, e = .exit id) ∧ ∃ s, Sat S Y s a w ∧ p e s
  | .again p :: k, e, a, w => match e with
    | .normal => ∃ s, Sat S Y s a w ∧ p s
    | e => Mx S Y k e a w
  | .blk id :: k, e, a, w => match e with
    | .exit id' => if id' = id then Mx S Y k .normal a w else Mx S Y k (.exit id') a w
    | e => Mx S Y k e a w
  | .code m :: k, e, a, w => match e with
    | .normal => ∀ hs c, trC S.P hs c = some m → c.wpIn (fence Y.round) 0 S.P (Mx S Y k) a w
    | e => Mx S Y k e a w

/-- THE GOAL: from every world that is as s says the rest goes through. -/
def G (S : Sx) (k : List MI) (s : St) : Prop := ∀ Y a w, Sat S Y s a w → Mx S Y k .normal a w
/-- Likewise, with an exit under way. -/
def GE (S : Sx) (e : Exit) (k : List MI) (s : St) : Prop := ∀ Y a w, Sat S Y s a w → Mx S Y k e a w
end Go.Fw
