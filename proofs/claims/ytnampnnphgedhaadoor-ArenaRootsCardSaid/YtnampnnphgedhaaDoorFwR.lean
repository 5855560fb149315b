/- The framework, part 18: regions, in the text's order and in a drawn one. -/
import Derived.Test.YtnampnnphgedhaaDoorFwQ
set_option linter.all false
namespace Go.Fw
open Go

/-! ### Frames where some operations are done -/
theorem setV_len : ∀ (l : List V) (d : Nat) (v : V), (setV l d v).length = l.length
  | [], _, _ => rfl
  | _ :: _, 0, _ => rfl
  | _ :: l, d + 1, v => by simp [setV, setV_len l d v]
theorem putV_len (l : List V) (d : Option Nat) (v : V) : (putV l d v).length = l.length := by cases d <;> simp [putV, setV_len]
theorem getV_setV : ∀ (l : List V) (d : Nat) (v : V) (t : Nat), getV (setV l d v) t = if d = t ∧ t < l.length then v else getV l t
  | [], d, v, t => by simp [setV, getV]
  | u :: l, 0, v, 0 => by simp [setV, getV]
  | u :: l, 0, v, t + 1 => by simp [setV, getV]
  | u :: l, d + 1, v, 0 => by simp [setV, getV]
  | u :: l, d + 1, v, t + 1 => by simp [setV, getV, getV_setV l d v t]
theorem getV_putV (l : List V) (d : Option Nat) (v : V) (t : Nat) : getV (putV l d v) t = if d = some t ∧ t < l.length then v else getV l t := by
  cases d with
  | none => simp [putV]
  | some d => simp [putV, getV_setV]
theorem listV_ext : ∀ {l m : List V}, l.length = m.length → (∀ t, getV l t = getV m t) → l = m
  | [], [], _, _ => rfl
  | x :: l, y :: m, h, k => by
    have h0 : x = y := k 0
    have h1 : l = m := listV_ext (by simpa using h) fun t => k (t + 1)
    rw [h0, h1]
  | [], _ :: _, h, _ => by simp at h
  | _ :: _, [], h, _ => by simp at h

def frD : (Nat → Bool) → (Nat → V) → List Rc → List V → List V
  | _, _, [], fr => fr
  | D, vs, r :: rs, fr => frD (fun i => D (i + 1)) (fun i => vs (i + 1)) rs (if D 0 then putV fr r.d (vs 0) else fr)

theorem frD_len : ∀ (rs : List Rc) (D : Nat → Bool) (vs : Nat → V) (fr : List V), (frD D vs rs fr).length = fr.length
  | [], _, _, _ => rfl
  | r :: rs, D, vs, fr => by
    simp only [frD, frD_len rs]
    split
    · exact putV_len _ _ _
    · rfl
theorem frD_get : ∀ (rs : List Rc) (D D' : Nat → Bool) (vs : Nat → V) (fr fr' : List V) (t : Nat), fr.length = fr'.length → getV fr t = getV fr' t →
    (∀ i r, rs[i]? = some r → r.d = some t → D i = D' i) → getV (frD D vs rs fr) t = getV (frD D' vs rs fr') t
  | [], _, _, _, _, _, _, _, h, _ => h
  | r :: rs, D, D', vs, fr, fr', t, hl, h, k => by
    simp only [frD]
    refine frD_get rs _ _ _ _ _ t ?_ ?_ fun i r hi hr => k (i + 1) r (by simpa using hi) hr
    · split <;> split <;> simp [putV_len, hl]
    · by_cases hr : r.d = some t
      · have := k 0 r rfl hr
        rw [← this]
        split
        · simp [getV_putV, hr, hl, h]
        · exact h
      · split <;> split <;> simp [getV_putV, hr, h]
theorem frD_none : ∀ (rs : List Rc) (D : Nat → Bool) (vs : Nat → V) (fr : List V), (∀ i, D i = false) → frD D vs rs fr = fr
  | [], _, _, _, _ => rfl
  | r :: rs, D, vs, fr, h => by simp [frD, h 0, frD_none rs _ _ fr fun i => h (i + 1)]
theorem frD_one : ∀ (rs : List Rc) (D : Nat → Bool) (vs : Nat → V) (fr : List V) (j : Nat) (r : Rc) (t : Nat), rs[j]? = some r → r.d = some t → D j = true → t < fr.length →
    (∀ i r', rs[i]? = some r' → i ≠ j → r'.d ≠ some t) → getV (frD D vs rs fr) t = vs j
  | [], _, _, _, _, _, _, h, _, _, _, _ => by simp at h
  | q :: rs, D, vs, fr, 0, r, t, h, hr, hD, ht, k => by
    simp at h; subst h
    simp only [frD, hD, if_true]
    have : getV (frD (fun i => D (i + 1)) (fun i => vs (i + 1)) rs (putV fr q.d (vs 0))) t = getV (frD (fun _ => false) (fun i => vs (i + 1)) rs (putV fr q.d (vs 0))) t :=
      frD_get rs _ _ _ _ _ t rfl rfl fun i r' hi hr' => absurd hr' (k (i + 1) r' (by simpa using hi) (by simp))
    rw [this, frD_none _ _ _ _ fun _ => rfl, getV_putV, if_pos ⟨hr, ht⟩]
  | q :: rs, D, vs, fr, j + 1, r, t, h, hr, hD, ht, k => by
    simp only [frD]
    refine frD_one rs _ _ _ j r t (by simpa using h) hr hD ?_ fun i r' hi hne => k (i + 1) r' (by simpa using hi) (by omega)
    split <;> simp [putV_len, ht]
theorem frD_add {rs : List Rc} {D D' : Nat → Bool} {vs : Nat → V} {fr : List V} {j : Nat} {r : Rc} (hj : rs[j]? = some r) (hD : ∀ i, i ≠ j → D' i = D i) (hD' : D' j = true)
    (hd : ∀ i r' t, rs[i]? = some r' → i ≠ j → r.d = some t → r'.d ≠ some t) : frD D' vs rs fr = putV (frD D vs rs fr) r.d (vs j) := by
  refine listV_ext (by simp [frD_len, putV_len]) fun t => ?_
  rw [getV_putV, frD_len]
  by_cases hr : r.d = some t
  · by_cases ht : t < fr.length
    · rw [if_pos ⟨hr, ht⟩]
      exact frD_one rs D' vs fr j r t hj hr hD' ht fun i r' hi hne => hd i r' t hi hne hr
    · rw [if_neg (fun h => ht h.2)]
      have : ∀ (l : List V) (t : Nat), ¬ t < l.length → getV l t = .un := by
        intro l
        induction l with
        | nil => intro t _; rfl
        | cons x l ih => intro t ht; cases t with
          | zero => simp at ht
          | succ t => exact ih t (by simpa using ht)
      rw [this _ _ (by rw [frD_len]; exact ht), this _ _ (by rw [frD_len]; exact ht)]
  · rw [if_neg (fun h => hr h.1)]
    refine frD_get rs _ _ _ _ _ t rfl rfl fun i r' hi hr' => hD i ?_
    intro e; subst e; rw [hj] at hi; cases hi; exact hr hr'

/-! ### A run's trace -/
section
variable {S : Sx} {Y : Dyn} {s : St} {a : Act} {w : World} {ops : Array Oper} {Q : Exit → Act → World → Prop}

def StepEv (S : Sx) (q : Bool) (r : Rc) (s : St) (v : V) (own' : List Ch) : Prop :=
  ((∀ t b, r.g = some (t, b) → getV s.fr t = .one (.d (.bool b))) ∧ Ev S r.o (evO s.fr) s.own v own' ∧ (q = true → quiet r.o = true → own' = s.own)) ∨
  (∃ t b, r.g = some (t, b) ∧ offV b (getV s.fr t) ∧ v = .tup [] ∧ own' = s.own)

theorem Runs.trace {q : Bool} {K : St → Prop} : ∀ {rs : List Rc} {s : St}, Runs S q K rs s → ∃ (vs : Nat → V) (os : Nat → List Ch), os 0 = s.own ∧ K ⟨frD (fun _ => true) vs rs s.fr, os rs.length⟩ ∧
    ∀ j r, rs[j]? = some r → StepEv S q r ⟨frD (fun i => decide (i < j)) vs rs s.fr, os j⟩ (vs j) (os (j + 1))
  | [], s, h => ⟨fun _ => .un, fun _ => s.own, rfl, h, by simp⟩
  | ⟨g, d, o⟩ :: rs, s, h => by
    have key : ∃ v own', StepEv S q ⟨g, d, o⟩ s v own' ∧ Runs S q K rs ⟨putV s.fr d v, own'⟩ := by
      rcases h with ⟨v, own', h1, h2, h3, h4⟩ | ⟨t, b, h1, h2, h4⟩
      · exact ⟨v, own', .inl ⟨h1, h2, h3⟩, h4⟩
      · exact ⟨.tup [], s.own, .inr ⟨t, b, h1, h2, rfl, rfl⟩, h4⟩
    obtain ⟨v, own', hs, hr⟩ := key
    obtain ⟨vs, os, h0, hK, hst⟩ := Runs.trace hr
    refine ⟨fun i => match i with | 0 => v | i + 1 => vs i, fun i => match i with | 0 => s.own | i + 1 => os i, rfl, ?_, ?_⟩
    · simpa [frD] using hK
    · intro j r hj
      cases j with
      | zero =>
        simp at hj; subst hj
        have : frD (fun i => decide (i < 0)) (fun i => match i with | 0 => v | i + 1 => vs i) (⟨g, d, o⟩ :: rs) s.fr = s.fr := frD_none _ _ _ _ (by simp)
        simp only [this, h0]
        exact hs
      | succ j =>
        have := hst j r (by simpa using hj)
        simpa [frD] using this

theorem trRc_dst {hs : List Nat} {o : Oper} {r : Rc} {P : Program} (h : trRc P hs ops o = some r) : ∃ imm, trOp P imm o.op = some r.o ∧ r.d = o.dst ∧
    ((o.guard = none ∧ r.g = none) ∨ ∃ j b t, o.guard = some (j, b) ∧ (ops[j]?).bind (·.dst) = some t ∧ r.g = some (t, b)) := by
  unfold trRc at h
  rw [Option.bind_eq_some_iff] at h
  obtain ⟨m, hm, h⟩ := h
  obtain ⟨imm, hm⟩ : ∃ imm, trOp P imm o.op = some m := ⟨_, hm⟩
  refine ⟨imm, ?_⟩
  cases hg : o.guard with
  | none =>
    rw [hg] at h
    cases h
    exact ⟨hm, rfl, .inl ⟨rfl, rfl⟩⟩
  | some p =>
    obtain ⟨j, b⟩ := p
    rw [hg] at h
    obtain ⟨t, ht, rfl⟩ := Option.map_eq_some_iff.1 h
    exact ⟨hm, rfl, .inr ⟨j, b, t, rfl, ht, rfl⟩⟩

theorem trRcs_get {hs : List Nat} {P : Program} : ∀ {l : List Oper} {rs : List Rc}, trRcs P hs ops l = some rs → rs.length = l.length ∧ ∀ (i : Nat) (o : Oper), l[i]? = some o → ∃ r, rs[i]? = some r ∧ trRc P hs ops o = some r
  | [], rs, h => by simp [trRcs] at h; subst h; simp
  | o :: l, rs, h => by
    simp only [trRcs, Option.bind_eq_some_iff, Option.map_eq_some_iff] at h
    obtain ⟨r, hr, rs', hl, rfl⟩ := h
    obtain ⟨h1, h2⟩ := trRcs_get hl
    refine ⟨by simp [h1], fun i o' ho => ?_⟩
    cases i with
    | zero => simp at ho; subst ho; exact ⟨r, rfl, hr⟩
    | succ i => simpa using h2 i o' (by simpa using ho)

theorem slot_bool {t : Nat} {c : Bool} (h : Sat S Y s a w) (hg : getV s.fr t = .one (.d (.bool c))) : a.tmps[t]? = some (.bool c) := by
  obtain ⟨H, an, F, ms, h⟩ := h
  obtain ⟨u, hu, hd⟩ := h.fr.get (getV_some _ _ _ hg (by simp))
  rw [← Array.getElem?_toList, hu]
  rw [den_bool hd]

theorem slot_undef {t : Nat} (h : Sat S Y s a w) (hg : getV s.fr t = .tup []) : a.tmps[t]? = some undef := by
  obtain ⟨H, an, F, ms, h⟩ := h
  obtain ⟨u, hu, hd⟩ := h.fr.get (getV_some _ _ _ hg (by simp))
  rw [← Array.getElem?_toList, hu]
  obtain ⟨vs, rfl, hv⟩ := hd
  cases vs with
  | nil => rfl
  | cons v vs => exact hv.elim

/-- ONE OPERATION OF A REGION. -/
theorem step_rc {hs : List Nat} {i : Nat} {o : Oper} {r : Rc} {q : Bool} {v : V} {own' : List Ch} {K : Act → World → Prop} (hi : ops[i]? = some o) (hr : trRc S.P hs ops o = some r) (h : Sat S Y s a w)
    (hv : StepEv S q r s v own') (hn : ∀ a' w', Sat S Y ⟨putV s.fr r.d v, own'⟩ a' w' → K a' w') : wpOpIn (fence Y.round) 0 S.P ops Q i K a w := by
  obtain ⟨imm, hm, hd, hg⟩ := trRc_dst hr
  unfold wpOpIn
  simp only [hi]
  rcases hv with ⟨h1, h2, _⟩ | ⟨t, b, h1, h2, rfl, rfl⟩
  · have hw : Region.wanted o (yielded ops a.tmps) = true := by
      rcases hg with ⟨hg, _⟩ | ⟨j, b, t, hg, ht, hrg⟩
      · simp [Region.wanted, hg]
      · have := slot_bool h (h1 t b hrg)
        simp [Region.wanted, hg, yielded, ht, this]
    rw [if_pos hw]
    exact step_op h hm h2 (by rw [← hd]; exact hn)
  · have hw : Region.wanted o (yielded ops a.tmps) = false := by
      rcases hg with ⟨_, hg⟩ | ⟨j, b', t', hg, ht, hrg⟩
      · rw [h1] at hg; cases hg
      · rw [h1] at hrg; cases hrg
        rcases h2 with h2 | ⟨c, h2, h3⟩
        · have := slot_undef h h2
          simp [Region.wanted, hg, yielded, ht, this, undef]
        · have := slot_bool h h2
          simp [Region.wanted, hg, yielded, ht, this, h3]
    rw [if_neg (by simp [hw])]
    refine ⟨fun _ _ => trivial, ?_⟩
    obtain ⟨H, an, F, ms, h⟩ := h
    exact hn _ _ ⟨H, an, F, ms, by rw [hd]; exact h.put o.dst (v := .tup []) (u := undef) ⟨[], rfl, trivial⟩⟩

/-- A region in the text's order. -/
theorem ops_text {hs : List Nat} {q : Bool} {K : St → Prop} (hQ : ∀ s a w, Sat S Y s a w → K s → Q .normal a w) : ∀ (l : List Oper) (k : Nat) (rs : List Rc) (s : St) (a : Act) (w : World),
    (∀ i o, l[i]? = some o → ops[k + i]? = some o) → trRcs S.P hs ops l = some rs → Runs S q K rs s → Sat S Y s a w → wpOpsIn (fence Y.round) 0 S.P ops Q (List.range' k l.length) a w
  | [], k, rs, s, a, w, _, ht, hr, h => by
    simp [trRcs] at ht; subst ht
    exact hQ s a w h hr
  | o :: l, k, rs, s, a, w, hl, ht, hr, h => by
    simp only [trRcs, Option.bind_eq_some_iff, Option.map_eq_some_iff] at ht
    obtain ⟨r, h1, rs', h2, rfl⟩ := ht
    simp only [List.length_cons, List.range'_succ]
    rw [wpOpsIn_cons]
    have key : ∃ v own', StepEv S q r s v own' ∧ Runs S q K rs' ⟨putV s.fr r.d v, own'⟩ := by
      obtain ⟨g, d, m⟩ := r
      rcases hr with ⟨v, own', h1, h2, h3, h4⟩ | ⟨t, b, h1, h2, h4⟩
      · exact ⟨v, own', .inl ⟨h1, h2, h3⟩, h4⟩
      · exact ⟨.tup [], s.own, .inr ⟨t, b, h1, h2, rfl, rfl⟩, h4⟩
    obtain ⟨v, own', hs', hr'⟩ := key
    exact step_rc (by have := hl 0 o rfl; simpa using this) h1 h hs' fun a' w' h' => ops_text hQ l (k + 1) rs' _ a' w' (fun i o' ho => by have := hl (i + 1) o' (by simpa using ho); rw [← this]; congr 1; omega) h2 hr' h'
end
end Go.Fw
