/- The framework, part 17: values read by operations; when operations may change places. -/
import Derived.Test.YtnampnnphgedhaaDoorFwP
set_option linter.all false
namespace Go.Fw
open Go

/-! ### What an operation looks at -/
section
variable {S : Sx} {ev ev' : Opd → V}

theorem layF_congr : ∀ (ps : List (Nat × Nat × Opd)) (z : List A), (∀ p ∈ ps, ev' p.2.2 = ev p.2.2) → layF ev' z ps = layF ev z ps
  | [], _, _ => rfl
  | (off, n, x) :: l, z, h => by
    have h0 : ev' x = ev x := h (off, n, x) (by simp)
    simp only [layF, h0]
    split
    · exact layF_congr l _ fun p hp => h p (by simp [hp])
    · rfl
theorem layE_congr (sz : Nat) : ∀ (ps : List (Nat × Opd)) (z : List (List D)), (∀ p ∈ ps, ev' p.2 = ev p.2) → layE ev' sz z ps = layE ev sz z ps
  | [], _, _ => rfl
  | (i, x) :: l, z, h => by
    have h0 : ev' x = ev x := h (i, x) (by simp)
    simp only [layE, h0]
    split
    · split
      · exact layE_congr sz l _ fun p hp => h p (by simp [hp])
      · rfl
    · rfl
theorem all_congr {α : Type} {f g : α → Bool} : ∀ l : List α, (∀ x ∈ l, f x = g x) → l.all f = l.all g
  | [], _ => rfl
  | x :: l, h => by simp [h x (by simp), all_congr l fun y hy => h y (by simp [hy])]
theorem map_congr' {l : List Opd} (h : ∀ x ∈ l, ev' x = ev x) : l.map ev' = l.map ev := List.map_congr_left h
theorem boundV_congr {o : Option Opd} {d n : Nat} (h : ∀ x ∈ opdL o, ev' x = ev x) : boundV ev' o d n = boundV ev o d n := by
  cases o with
  | none => rfl
  | some x => simp only [boundV, h x (by simp [opdL])]

theorem Ev_congr {o : MOp} {own own' : List Ch} {v : V} (h : ∀ x ∈ o.opds, ev' x = ev x) : Ev S o ev' own v own' = Ev S o ev own v own' := by
  cases o with
  | build z ps =>
    have h' : ∀ p ∈ ps, ev' p.2.2 = ev p.2.2 := fun p hp => h p.2.2 (List.mem_map_of_mem hp)
    simp only [Ev, layF_congr ps _ h', all_congr (f := fun p => (ev' p.2.2).ok) (g := fun p => (ev p.2.2).ok) ps fun p hp => by simp only [h' p hp]]
  | bslice sz z n ps =>
    have h' : ∀ p ∈ ps, ev' p.2 = ev p.2 := fun p hp => h p.2 (List.mem_map_of_mem hp)
    simp only [Ev, layE_congr sz ps _ h', all_congr (f := fun p => (ev' p.2).ok) (g := fun p => (ev p.2).ok) ps fun p hp => by simp only [h' p hp]]
  | bslO sz z n ps =>
    have h' : ∀ p ∈ ps, ev' p.2 = ev p.2 := fun p hp => h p.2 (List.mem_map_of_mem hp)
    simp only [Ev, layE_congr sz ps _ h', all_congr (f := fun p => (ev' p.2).ok) (g := fun p => (ev p.2).ok) ps fun p hp => by simp only [h' p hp]]
  | mkF f l => simp only [Ev, map_congr' (l := l) h]
  | call f l => simp only [Ev, map_congr' (l := l) h]
  | callv g l => simp only [Ev, h g (by simp [MOp.opds]), map_congr' (l := l) fun x hx => h x (by simp [MOp.opds, hx])]
  | slcS x lo hi =>
    have h1 : ∀ d n, boundV ev' lo d n = boundV ev lo d n := fun d n => boundV_congr fun x hx => h x (by simp [MOp.opds, hx])
    have h2 : ∀ d n, boundV ev' hi d n = boundV ev hi d n := fun d n => boundV_congr fun x hx => h x (by simp [MOp.opds, hx])
    simp only [Ev, h x (by simp [MOp.opds]), h1, h2]
  | slc sz x lo hi =>
    have h1 : ∀ d n, boundV ev' lo d n = boundV ev lo d n := fun d n => boundV_congr fun x hx => h x (by simp [MOp.opds, hx])
    have h2 : ∀ d n, boundV ev' hi d n = boundV ev hi d n := fun d n => boundV_congr fun x hx => h x (by simp [MOp.opds, hx])
    simp only [Ev, h x (by simp [MOp.opds]), h1, h2]
  | mv x => simp only [Ev, h x (by simp [MOp.opds])]
  | pick c x y => simp only [Ev, h c (by simp [MOp.opds]), h x (by simp [MOp.opds]), h y (by simp [MOp.opds])]
  | alloc z => rfl
  | box x => simp only [Ev, h x (by simp [MOp.opds])]
  | ibox x => simp only [Ev, h x (by simp [MOp.opds])]
  | load n ag x => simp only [Ev, h x (by simp [MOp.opds])]
  | store n x y => simp only [Ev, h x (by simp [MOp.opds]), h y (by simp [MOp.opds])]
  | fad off x => simp only [Ev, h x (by simp [MOp.opds])]
  | iad sz x i => simp only [Ev, h x (by simp [MOp.opds]), h i (by simp [MOp.opds])]
  | iadA len sz x i => simp only [Ev, h x (by simp [MOp.opds]), h i (by simp [MOp.opds])]
  | idxS x i => simp only [Ev, h x (by simp [MOp.opds]), h i (by simp [MOp.opds])]
  | len kd x => simp only [Ev, h x (by simp [MOp.opds])]
  | app sz bytes x y => simp only [Ev, h x (by simp [MOp.opds]), h y (by simp [MOp.opds])]
  | min x y => simp only [Ev, h x (by simp [MOp.opds]), h y (by simp [MOp.opds])]
  | max x y => simp only [Ev, h x (by simp [MOp.opds]), h y (by simp [MOp.opds])]
  | bin kd o x y => simp only [Ev, h x (by simp [MOp.opds]), h y (by simp [MOp.opds])]
  | eqs neg ks x y => simp only [Ev, h x (by simp [MOp.opds]), h y (by simp [MOp.opds])]
  | nilq kd neg x => simp only [Ev, h x (by simp [MOp.opds])]
  | not x => simp only [Ev, h x (by simp [MOp.opds])]
  | conv k x => simp only [Ev, h x (by simp [MOp.opds])]
  | mkI t x => simp only [Ev, h x (by simp [MOp.opds])]
  | mkMv f x => simp only [Ev, h x (by simp [MOp.opds])]
  | mkM => rfl
  | lkp ok z kag ks m k => simp only [Ev, h m (by simp [MOp.opds]), h k (by simp [MOp.opds])]
  | mupd kag ks m k x => simp only [Ev, h m (by simp [MOp.opds]), h k (by simp [MOp.opds]), h x (by simp [MOp.opds])]
  | mkS sz bytes z l => simp only [Ev, h l (by simp [MOp.opds])]
  | ext x i => simp only [Ev, h x (by simp [MOp.opds])]
  | rng x => simp only [Ev, h x (by simp [MOp.opds])]
  | nxt x => simp only [Ev, h x (by simp [MOp.opds])]
  | tas t ok z x => simp only [Ev, h x (by simp [MOp.opds])]

/-! ### Chunks that a value leads to -/
/-- Chunks that agree where a value leads. -/
def Agree (own own2 : List Ch) (rs : List Nat) : Prop := ∀ i ∈ rs, getC own i ≠ .dead → getC own2 i = getC own i

variable {own own2 : List Ch}
theorem Agree.sub {rs ts : List Nat} (h : Agree own own2 rs) (k : ∀ i ∈ ts, i ∈ rs) : Agree own own2 ts := fun i hi => h i (k i hi)

theorem A.refs0_sub {x : A} : ∀ i ∈ x.refs0, i ∈ x.refs := by cases x <;> simp [A.refs0, A.refs]
theorem V.refs0_sub {x : V} : ∀ i ∈ x.refs0, i ∈ x.refs := by
  cases x with
  | one a => exact A.refs0_sub
  | agg l =>
    intro i hi
    simp only [V.refs0, V.refs, List.mem_flatMap] at hi ⊢
    obtain ⟨x, hx, hi⟩ := hi
    exact ⟨x, hx, A.refs0_sub i hi⟩
  | tup l => simp [V.refs0]
  | un => simp [V.refs0]
theorem lendA_agree {x : A} {y : D} (h : Agree own own2 x.refs0) (hl : lendA own x = some y) : lendA own2 x = some y := by
  cases x with
  | own j ver =>
    simp only [lendA] at hl ⊢
    split at hl
    · rename_i sz ver' xs hc
      rw [h j (by simp [A.refs0]) (by rw [hc]; simp), hc]
      exact hl
    · cases hl
  | ptr j off =>
    simp only [lendA] at hl ⊢
    split at hl
    · rename_i cs hc
      rw [h j (by simp [A.refs0]) (by rw [hc]; simp), hc]
      exact hl
    · cases hl
  | _ => exact hl
theorem lendAs_agree : ∀ {xs : List A} {ys : List D}, Agree own own2 (xs.flatMap A.refs0) → lendAs own xs = some ys → lendAs own2 xs = some ys
  | [], ys, _, h => h
  | x :: xs, ys, h, hl => by
    simp only [lendAs] at hl ⊢
    split at hl
    · rename_i y r h1 h2
      rw [lendA_agree (h.sub fun i hi => by simp [hi]) h1, lendAs_agree (h.sub fun i hi => by simp only [List.flatMap_cons, List.mem_append]; exact .inr hi) h2]
      exact hl
    · cases hl
theorem lendV_agree {x y : V} (h : Agree own own2 x.refs0) (hl : lendV own x = some y) : lendV own2 x = some y := by
  cases x with
  | one a =>
    simp only [lendV] at hl ⊢
    split at hl
    · rename_i z hz; rw [lendA_agree h hz]; exact hl
    · cases hl
  | agg l =>
    simp only [lendV] at hl ⊢
    split at hl
    · rename_i z hz; rw [lendAs_agree h hz]; exact hl
    · cases hl
  | tup l => exact hl
  | un => exact hl
theorem lendL_agree : ∀ {xs ys : List V}, Agree own own2 (xs.flatMap V.refs0) → lendL own xs = some ys → lendL own2 xs = some ys
  | [], ys, _, h => h
  | x :: xs, ys, h, hl => by
    simp only [lendL] at hl ⊢
    split at hl
    · rename_i y r h1 h2
      rw [lendV_agree (h.sub fun i hi => by simp [hi]) h1, lendL_agree (h.sub fun i hi => by simp only [List.flatMap_cons, List.mem_append]; exact .inr hi) h2]
      exact hl
    · cases hl
theorem CallV_agree {f : FuncId} {xs : List V} {v : V} (h : Agree own own2 (xs.flatMap V.refs0)) (hc : CallV S f xs own v) : CallV S f xs own2 v := by
  obtain ⟨l, hl, h1, h2⟩ := hc
  exact ⟨l, lendL_agree h hl, h1, h2⟩

theorem calleeV_refs {g : V} {args l : List V} {f : FuncId} (h : calleeV g args = some (f, l)) : ∀ i ∈ l.flatMap V.refs0, i ∈ g.refs ∨ i ∈ args.flatMap V.refs0 := by
  unfold calleeV at h
  split at h <;> cases h
  · intro i hi
    rw [List.flatMap_append, List.mem_append] at hi
    rcases hi with hi | hi
    · exact .inr hi
    · simp only [List.mem_flatMap, List.mem_map] at hi
      obtain ⟨_, ⟨x, _, rfl⟩, hi⟩ := hi
      simp [V.refs0, A.refs0] at hi
  · intro i hi
    simp only [List.flatMap_cons, List.mem_append] at hi
    rcases hi with hi | hi
    · simp [V.refs0, A.refs0] at hi
    · exact .inr hi
  · rename_i cs
    intro i hi
    simp only [List.flatMap_cons, List.mem_append] at hi
    rcases hi with hi | hi
    · simp only [V.refs0, List.mem_flatMap, List.mem_map] at hi
      obtain ⟨_, ⟨x, _, rfl⟩, hi⟩ := hi
      simp [A.refs0] at hi
    · exact .inr hi
  · rename_i caps
    intro i hi
    rw [List.flatMap_append, List.mem_append] at hi
    rcases hi with hi | hi
    · exact .inr hi
    · simp only [List.mem_flatMap, List.mem_map] at hi
      obtain ⟨_, ⟨x, hx, rfl⟩, hi⟩ := hi
      exact .inl (List.mem_flatMap.2 ⟨x, hx, hi⟩)
  · rename_i x
    intro i hi
    simp only [List.flatMap_cons, List.mem_append] at hi
    rcases hi with hi | hi
    · exact .inl (by simpa [V.refs, A.refs, V.refs0] using hi)
    · exact .inr hi
  · rename_i cs
    intro i hi
    simp only [List.flatMap_cons, List.mem_append] at hi
    rcases hi with hi | hi
    · exact .inl (by simpa [V.refs, A.refs, V.refs0] using hi)
    · exact .inr hi

theorem LenV_agree {kd : Leaf} {x v : V} (h : Agree own own2 x.refs) (hl : LenV kd x.nrm own v) : LenV kd x.nrm own2 v := by
  unfold LenV at hl ⊢
  have hn : ∀ j ver, x.nrm = .one (.own j ver) → j ∈ x.refs := by
    intro j ver e
    cases x with
    | one a =>
      cases a <;> simp [V.nrm, A.nrm] at e
      simp [V.refs, A.refs, A.refs0, e.1]
    | _ => simp [V.nrm] at e
  split at hl
  · exact hl
  · exact hl
  · rename_i j ver e
    split at hl
    · rename_i sz ver' xs hc
      rw [h j (hn j ver e) (by rw [hc]; simp), hc]
      exact hl
    · exact hl.elim
  · rename_i j e
    split at hl
    · rename_i es hc
      rw [h j (hn j 0 e) (by rw [hc]; simp), hc]
      exact hl
    · exact hl.elim
  · exact hl.elim

theorem setC_getC : ∀ (l : List Ch) (j : Nat), setC l j (getC l j) = l
  | [], _ => rfl
  | _ :: _, 0 => rfl
  | c :: l, j + 1 => by simp [setC, getC, setC_getC l j]
theorem getC_set : ∀ (l : List Ch) (j : Nat) (c : Ch), j < l.length → getC (l.set j c) j = c
  | [], _, _, h => by simp at h
  | _ :: _, 0, _, _ => rfl
  | _ :: l, j + 1, c, h => getC_set l j c (by simpa using h)
theorem live_ne {c : Ch} (h : c.live = true) : c ≠ .dead := fun e => by rw [e] at h; cases h
theorem CallM_agree {f : FuncId} {args : List V} {j : Nat} {v0 : V} {c' : Ch} (ho : own = setC own j c') (hc : CallM S f args own j v0 c') (ha : getC own j ≠ .dead → getC own2 j = getC own j) :
    own2 = setC own2 j c' ∧ CallM S f args own2 j v0 c' := by
  obtain ⟨l, h1, h2, h3, h4, h5, h6, h7⟩ := hc
  have hne := live_ne h3
  have hg := ha hne
  have hlt := (List.getElem?_eq_some_iff.1 (getC_some rfl hne)).1
  have hc' : c' = getC own j := by
    have : getC own j = getC (setC own j c') j := by rw [← ho]
    rw [setC_eq, getC_set _ _ _ hlt] at this
    exact this.symm
  refine ⟨?_, l, h1, h2, by rw [hg]; exact h3, by rw [hg]; exact h4, h5, h6, by rw [hg]; exact h7⟩
  rw [hc', ← hg, setC_getC]

/-- What only reads chunks does so where they agree. -/
theorem Ev_agree {o : MOp} {ev : Opd → V} {v : V} (hk : kindOf o = .read ∨ kindOf o = .free) (h : Agree own own2 (o.opds.flatMap fun x => (ev x).refs)) (hv : Ev S o ev own v own) : Ev S o ev own2 v own2 := by
  have hsub : ∀ x ∈ o.opds, Agree own own2 (ev x).refs := fun x hx => h.sub fun i hi => List.mem_flatMap.2 ⟨x, hx, hi⟩
  cases o with
  | load n ag x =>
    obtain ⟨_, h1, hv⟩ := hv
    refine ⟨rfl, h1, ?_⟩
    have hx := hsub x (by simp [MOp.opds])
    split at hv
    · rename_i i off e
      rw [e] at hx
      split at hv
      · rename_i cs hc
        rw [hx i (by simp [V.refs, A.refs, A.refs0]) (by rw [hc]; simp), hc]
        exact hv
      · exact hv.elim
    · exact hv
    · rename_i i ver sz e off e'
      rw [e'] at hx
      split at hv
      · rename_i sz' ver' xs hc
        rw [hx i (by simp [V.refs, A.refs, A.refs0]) (by rw [hc]; simp), hc]
        exact hv
      · exact hv.elim
    · exact hv
    · exact hv.elim
  | lkp ok z kag ks m k =>
    obtain ⟨_, r, u, hm, hv⟩ := hv
    refine ⟨rfl, r, u, ?_, hv⟩
    have hx := hsub m (by simp [MOp.opds])
    split at hm
    · rename_i j e
      rw [e] at hx
      split at hm
      · rename_i es hc
        rw [hx j (by simp [V.refs, A.refs, A.refs0]) (by rw [hc]; simp), hc]
        exact hm
      · exact hm.elim
    · exact hm
    · exact hm.elim
  | iad sz x i =>
    obtain ⟨_, hv⟩ := hv
    refine ⟨rfl, ?_⟩
    have hx := hsub x (by simp [MOp.opds])
    split at hv
    · exact hv
    · rename_i j ver k n e e2
      rw [e] at hx
      split at hv
      · rename_i sz' ver' xs hc
        rw [hx j (by simp [V.refs, A.refs, A.refs0]) (by rw [hc]; simp), hc]
        exact hv
      · exact hv.elim
    · exact hv.elim
  | slc sz x lo hi =>
    have hx := hsub x (by simp [MOp.opds])
    simp only [Ev] at hv ⊢
    split at hv
    · simpa using hv
    · rename_i j ver e
      split at hv
      · rename_i sz' ver' xs hc
        obtain ⟨rfl, rfl, l, q, _, _, _, _, ho, _⟩ := hv
        exfalso
        have : getC own j = getC (setC own j (.row sz' (ver' + 1) ((xs.take q).drop l))) j := by rw [← ho]
        rw [setC_eq] at this
        have hj := getC_some hc (by simp)
        have hlt := (List.getElem?_eq_some_iff.1 hj).1
        have h2 : ∀ (l : List Ch) (j : Nat) (c : Ch), j < l.length → getC (l.set j c) j = c := by
          intro l
          induction l with
          | nil => intro j c h; simp at h
          | cons x l ih =>
            intro j c h
            cases j with
            | zero => rfl
            | succ j => exact ih j c (by simpa using h)
        rw [h2 own j _ hlt, hc] at this
        injection this with _ h3 _
        omega
      · exact hv.elim
    · exact hv.elim
  | len kd x => exact ⟨rfl, LenV_agree (hsub x (by simp [MOp.opds])) hv.2⟩
  | call f l =>
    rcases hv with ⟨_, hv⟩ | ⟨j, v0, c', ho, rfl, hc⟩ | ⟨own1, ho, hle, _⟩
    · refine .inl ⟨rfl, CallV_agree ?_ hv⟩
      intro i hi hd
      simp only [List.mem_flatMap, List.mem_map] at hi
      obtain ⟨_, ⟨x, hx, rfl⟩, hi⟩ := hi
      exact hsub x hx i (V.refs0_sub i hi) hd
    · obtain ⟨g1, g2⟩ := CallM_agree (own2 := own2) ho hc fun hd => by
        have hj := hc.choose_spec.2.1
        rw [List.contains_iff_mem] at hj
        simp only [List.mem_flatMap, List.mem_map] at hj
        obtain ⟨_, ⟨x, hx, rfl⟩, hj⟩ := hj
        exact hsub x hx j hj hd
      exact .inr (.inl ⟨j, v0, c', g1, rfl, g2⟩)
    · have := congrArg List.length ho; simp at this; omega
  | callv g l =>
    rcases hv with ⟨f, m, hm, hv⟩ | ⟨_, own1, _, _, ho, hle, _⟩
    case inr => have := congrArg List.length ho; simp at this; omega
    refine .inl ⟨f, m, hm, ?_⟩
    rcases hv with ⟨_, hc⟩ | ⟨j, v0, c', ho, rfl, hj, hc⟩ | ⟨own1, ho, hle, _⟩
    · refine .inl ⟨rfl, CallV_agree ?_ hc⟩
      intro i hi hd
      rcases calleeV_refs hm i hi with h1 | h1
      · exact hsub g (by simp [MOp.opds]) i h1 hd
      · simp only [List.mem_flatMap, List.mem_map] at h1
        obtain ⟨_, ⟨x, hx, rfl⟩, h1⟩ := h1
        exact hsub x (by simp [MOp.opds, hx]) i (V.refs0_sub i h1) hd
    · obtain ⟨g1, g2⟩ := CallM_agree (own2 := own2) ho hc fun hd => by
        rw [List.contains_iff_mem] at hj
        rcases calleeV_refs hm j hj with h1 | h1
        · exact hsub g (by simp [MOp.opds]) j h1 hd
        · simp only [List.mem_flatMap, List.mem_map] at h1
          obtain ⟨_, ⟨x, hx, rfl⟩, h1⟩ := h1
          exact hsub x (by simp [MOp.opds, hx]) j (V.refs0_sub j h1) hd
      exact .inr (.inl ⟨j, v0, c', g1, rfl, hj, g2⟩)
    · have := congrArg List.length ho; simp at this; omega
  | alloc z => rcases hk with hk | hk <;> cases hk
  | box x => rcases hk with hk | hk <;> cases hk
  | mkM => rcases hk with hk | hk <;> cases hk
  | mkS sz bytes z l => rcases hk with hk | hk <;> cases hk
  | store n x y => rcases hk with hk | hk <;> cases hk
  | mupd kag ks m k x => rcases hk with hk | hk <;> cases hk
  | rng x => rcases hk with hk | hk <;> cases hk
  | nxt x => rcases hk with hk | hk <;> cases hk
  | app sz bytes x y => rcases hk with hk | hk <;> cases hk
  | bslO sz z n ps => rcases hk with hk | hk <;> cases hk
  | mv x => exact ⟨hv.1, rfl⟩
  | ibox x => exact ⟨hv.1, rfl, hv.2.2⟩
  | _ => exact ⟨rfl, hv.2⟩

/-- What is free looks at no chunk. -/
theorem Ev_free {o : MOp} {ev : Opd → V} {v : V} (hk : kindOf o = .free) (hv : Ev S o ev own v own) : Ev S o ev own2 v own2 := by
  cases o with
  | mv x => exact ⟨hv.1, rfl⟩
  | ibox x => exact ⟨hv.1, rfl, hv.2.2⟩
  | _ => first | (cases hk; done) | exact ⟨rfl, hv.2⟩

/-- What allocates adds a chunk. -/
theorem Ev_alloc {o : MOp} {ev : Opd → V} {v : V} {own' : List Ch} (hk : kindOf o = .alloc) (hv : Ev S o ev own v own') : ∃ c, own' = own ++ [c] := by
  cases o <;> first | (cases hk; done) | skip
  · exact ⟨_, hv.1⟩
  · exact ⟨_, hv.2.2.1⟩
  · exact ⟨_, hv.1⟩
  · simp only [Ev] at hv
    split at hv
    · exact ⟨_, hv.2.2.2.2.2.1⟩
    · exact hv.elim

/-- What reads leaves chunks as they are, but for cuts of own rows. -/
theorem Ev_still {o : MOp} {ev : Opd → V} {v : V} {own' : List Ch} (hk : kindOf o = .read ∨ kindOf o = .free) (hq : quiet o = true → own' = own) (hv : Ev S o ev own v own') : own' = own := by
  cases o <;> first | (rcases hk with hk | hk <;> cases hk; done) | exact hv.1 | exact hq rfl | exact hv.2 | exact hv.2.1
end
end Go.Fw
