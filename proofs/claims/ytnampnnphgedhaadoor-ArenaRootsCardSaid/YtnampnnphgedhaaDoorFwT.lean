/- The framework, part 20: regions in a drawn order: whatever the order, it is as in the text's. -/
import Derived.Test.YtnampnnphgedhaaDoorFwS
set_option linter.all false
namespace Go.Fw
open Go

structure InvD (ms : List Nat) (rs : List Rc) (D : Nat → Bool) (p : Nat) : Prop where
  closed : ∀ k i, D k = true → (ms.getD k 0).testBit i = true → D i = true
  pos : ∀ (i : Nat) (r : Rc), rs[i]? = some r → isChain (kindOf r.o) = true → (D i = true ↔ i < p)
  ple : p ≤ rs.length

theorem count_set : ∀ (l : List Bool) (j : Nat), l[j]? = some false → (l.set j true).count false + 1 = l.count false
  | [], _, h => by simp at h
  | b :: l, 0, h => by simp at h; subst h; simp
  | b :: l, j + 1, h => by
    have := count_set l j (by simpa using h)
    simp only [List.set_cons_succ, List.count_cons]
    omega

section
variable {S : Sx} {Y : Dyn} {s : St} {a : Act} {w : World} {ops : Array Oper} {Q : Exit → Act → World → Prop}
variable {rs : List Rc} {vs : Nat → V} {os : Nat → List Ch} {fr0 : List V}

theorem os_same (hst : ∀ j r, rs[j]? = some r → StepEv S true r ⟨frD (fun i => decide (i < j)) vs rs fr0, os j⟩ (vs j) (os (j + 1))) (m : Nat) : ∀ k, m + k ≤ rs.length →
    (∀ (i : Nat) (r : Rc), m ≤ i → i < m + k → rs[i]? = some r → isChain (kindOf r.o) = false) → os (m + k) = os m
  | 0, _, _ => rfl
  | k + 1, hk, h => by
    have hlt : m + k < rs.length := by omega
    have hr := List.getElem?_eq_getElem hlt
    have := (hst (m + k) _ hr).still rfl (h (m + k) _ (by omega) (by omega) hr)
    rw [show m + (k + 1) = m + k + 1 by omega, this]
    exact os_same hst m k (by omega) fun i r h1 h2 => h i r h1 (by omega)
theorem os_ext (hst : ∀ j r, rs[j]? = some r → StepEv S true r ⟨frD (fun i => decide (i < j)) vs rs fr0, os j⟩ (vs j) (os (j + 1))) (m : Nat) : ∀ k, m + k ≤ rs.length →
    (∀ (i : Nat) (r : Rc), m ≤ i → i < m + k → rs[i]? = some r → isEff (kindOf r.o) = false) → ∃ e, os (m + k) = os m ++ e
  | 0, _, _ => ⟨[], by simp⟩
  | k + 1, hk, h => by
    have hlt : m + k < rs.length := by omega
    have hr := List.getElem?_eq_getElem hlt
    obtain ⟨e, he⟩ := (hst (m + k) _ hr).ext rfl (h (m + k) _ (by omega) (by omega) hr)
    obtain ⟨e', he'⟩ := os_ext hst m k (by omega) fun i r h1 h2 => h i r h1 (by omega)
    refine ⟨e' ++ e, ?_⟩
    rw [show m + (k + 1) = m + k + 1 by omega, he, he']
    simp

theorem pairOk_spec {ms : List Nat} {i j : Nat} {x y : Rc} (h : pairOk ms i j x y = true) :
    (∀ t, x.d = some t → y.d ≠ some t) ∧ ((ms.getD j 0).testBit i = true ∨ (orderOk (kindOf x.o) (kindOf y.o) = true ∧ (∀ t, y.d = some t → t ∉ x.slots) ∧ ∀ t, x.d = some t → t ∉ y.slots)) := by
  simp only [pairOk, Bool.and_eq_true, Bool.or_eq_true] at h
  obtain ⟨h1, h3⟩ := h
  refine ⟨?_, ?_⟩
  · intro t ht hy
    rw [ht, hy] at h1
    simp at h1
  · rcases h3 with h3 | ⟨⟨h3, h2⟩, h4⟩
    · exact .inl h3
    · refine .inr ⟨h3, fun t ht hm => ?_, fun t ht hm => ?_⟩
      · rw [ht] at h2
        simp [hm] at h2
      · rw [ht] at h4
        simp [hm] at h4

/-- One operation that may come now, as if it came in the text's order. -/
theorem any_step {ms : List Nat} {D : Nat → Bool} {p j : Nat} {r : Rc} (hd : drawnOk ms 0 rs = true)
    (hst : ∀ j r, rs[j]? = some r → StepEv S true r ⟨frD (fun i => decide (i < j)) vs rs fr0, os j⟩ (vs j) (os (j + 1)))
    (hI : InvD ms rs D p) (hj : rs[j]? = some r) (hDj : D j = false) (hm : ∀ i, (ms.getD j 0).testBit i = true → D i = true) (h : Sat S Y ⟨frD D vs rs fr0, os p⟩ a w) :
    ∃ p', StepEv S true r ⟨frD D vs rs fr0, os p⟩ (vs j) (os p') ∧ ∀ D' : Nat → Bool, (∀ i, i ≠ j → D' i = D i) → D' j = true → InvD ms rs D' p' ∧ frD D' vs rs fr0 = putV (frD D vs rs fr0) r.d (vs j) := by
  have hjl : j < rs.length := (List.getElem?_eq_some_iff.1 hj).1
  have pr : ∀ i k x y, rs[i]? = some x → rs[k]? = some y → i < k → pairOk ms i k x y = true := fun i k x y hx hy hik => by
    have := drawnOk_spec hd i k x y hx hy hik
    simpa using this
  -- slots that are looked at
  have slots : ∀ t ∈ r.slots, getV (frD D vs rs fr0) t = getV (frD (fun i => decide (i < j)) vs rs fr0) t := by
    intro t ht
    refine frD_get rs _ _ _ _ _ t rfl rfl fun i x hx hxd => ?_
    rcases Nat.lt_trichotomy i j with hij | rfl | hij
    · rcases (pairOk_spec (pr i j x r hx hj hij)).2 with h1 | ⟨_, _, h1⟩
      · rw [hm i h1]; simp [hij]
      · exact absurd ht (h1 t hxd)
    · rw [hDj]; simp
    · rcases (pairOk_spec (pr j i r x hj hx hij)).2 with h1 | ⟨_, h1, _⟩
      · have : D i = false := by
          cases hDi : D i with
          | false => rfl
          | true => have := hI.closed i j hDi h1; rw [hDj] at this; cases this
        rw [this]; simp; omega
      · exact absurd ht (h1 t hxd)
  have evs : ∀ x ∈ r.o.opds, evO (frD D vs rs fr0) x = evO (frD (fun i => decide (i < j)) vs rs fr0) x := by
    intro x hx
    cases x with
    | c v => rfl
    | t n =>
      refine slots n ?_
      simp only [Rc.slots, List.mem_append, List.mem_filterMap]
      exact .inr ⟨.t n, hx, rfl⟩
  have guard : ∀ t b, r.g = some (t, b) → getV (frD D vs rs fr0) t = getV (frD (fun i => decide (i < j)) vs rs fr0) t := by
    intro t b hg
    refine slots t ?_
    simp [Rc.slots, hg]
  have hbase := hst j r hj
  -- the frame
  have hframe : ∀ D' : Nat → Bool, (∀ i, i ≠ j → D' i = D i) → D' j = true → frD D' vs rs fr0 = putV (frD D vs rs fr0) r.d (vs j) := fun D' h1 h2 =>
    frD_add hj h1 h2 fun i x t hx hne hrt hxt => by
      rcases Nat.lt_or_gt_of_ne hne with hij | hij
      · exact (pairOk_spec (pr i j x r hx hj hij)).1 t hxt hrt
      · exact (pairOk_spec (pr j i r x hj hx hij)).1 t hrt hxt
  have hclosed : ∀ D' : Nat → Bool, (∀ i, i ≠ j → D' i = D i) → D' j = true → ∀ k i, D' k = true → (ms.getD k 0).testBit i = true → D' i = true := fun D' h1 h2 k i hk hb => by
    by_cases hij : i = j
    · rw [hij]; exact h2
    · rw [h1 i hij]
      by_cases hkj : k = j
      · subst hkj; exact hm i hb
      · rw [h1 k hkj] at hk
        exact hI.closed k i hk hb
  by_cases hc : isChain (kindOf r.o) = true
  · -- what makes or turns chunks
    have order : ∀ (i : Nat) (x : Rc), rs[i]? = some x → isChain (kindOf x.o) = true → (D i = true ↔ i < j) := by
      intro i x hx hxc
      have hno : ∀ k l, isChain k = true → isChain l = true → orderOk k l = false := by
        intro k l; cases k <;> cases l <;> simp [isChain, orderOk]
      rcases Nat.lt_trichotomy i j with hij | rfl | hij
      · rcases (pairOk_spec (pr i j x r hx hj hij)).2 with h1 | ⟨h1, _⟩
        · simp [hm i h1, hij]
        · rw [hno _ _ hxc hc] at h1; cases h1
      · simp [hDj]
      · rcases (pairOk_spec (pr j i r x hj hx hij)).2 with h1 | ⟨h1, _⟩
        · constructor
          · intro hDi
            have := hI.closed i j hDi h1
            rw [hDj] at this; cases this
          · intro hlt; omega
        · rw [hno _ _ hc hxc] at h1; cases h1
    have hos : os p = os j := by
      rcases Nat.le_total p j with hpj | hpj
      · obtain ⟨k, rfl⟩ := Nat.exists_eq_add_of_le hpj
        refine (os_same hst p k (by omega) fun i x h1 h2 hx => ?_).symm
        by_cases hxc : isChain (kindOf x.o) = true
        · have e1 := order i x hx hxc
          have e2 := hI.pos i x hx hxc
          exfalso
          have := e2.1 (e1.2 h2)
          omega
        · simpa using hxc
      · obtain ⟨k, rfl⟩ := Nat.exists_eq_add_of_le hpj
        refine os_same hst j k hI.ple fun i x h1 h2 hx => ?_
        by_cases hxc : isChain (kindOf x.o) = true
        · have e1 := order i x hx hxc
          have e2 := hI.pos i x hx hxc
          exfalso
          have := e1.1 (e2.2 h2)
          omega
        · simpa using hxc
    refine ⟨j + 1, ?_, fun D' h1 h2 => ⟨⟨hclosed D' h1 h2, ?_, by omega⟩, hframe D' h1 h2⟩⟩
    · rcases hbase with ⟨g1, g2, g3⟩ | ⟨t, b, g1, g2, g4, g5⟩
      · refine .inl ⟨fun t b hg => by rw [guard t b hg]; exact g1 t b hg, ?_, fun hq hqq => by rw [hos]; exact g3 hq hqq⟩
        simp only [hos]
        rw [Ev_congr evs]; exact g2
      · exact .inr ⟨t, b, g1, by rw [guard t b g1]; exact g2, g4, by simp only [hos]; exact g5⟩
    · intro i x hx hxc
      by_cases hij : i = j
      · subst hij; simp [h2]
      · rw [h1 i hij, order i x hx hxc]; omega
  · have hc' : isChain (kindOf r.o) = false := by simpa using hc
    refine ⟨p, ?_, fun D' h1 h2 => ⟨⟨hclosed D' h1 h2, ?_, hI.ple⟩, hframe D' h1 h2⟩⟩
    · have hstill := hbase.still rfl hc'
      rcases hbase with ⟨g1, g2, g3⟩ | ⟨t, b, g1, g2, g4, g5⟩
      · refine .inl ⟨fun t b hg => by rw [guard t b hg]; exact g1 t b hg, ?_, fun _ _ => rfl⟩
        simp only at hstill
        rw [hstill] at g2
        rw [← Ev_congr evs] at g2
        by_cases hfree : kindOf r.o = .free
        · exact Ev_free hfree g2
        · have hread : kindOf r.o = .read := by
            generalize kindOf r.o = k at hc' hfree
            cases k <;> first | rfl | (exact absurd rfl hfree) | (cases hc'; done)
          refine Ev_agree (.inl hread) ?_ g2
          have noeff : ∀ (i : Nat) (x : Rc), rs[i]? = some x → isEff (kindOf x.o) = true → (i < p ↔ i < j) := by
            intro i x hx hxe
            have hxc : isChain (kindOf x.o) = true := by revert hxe; cases kindOf x.o <;> simp [isEff, isChain]
            have hxk : kindOf x.o = .eff := by revert hxe; cases kindOf x.o <;> simp [isEff]
            rw [← hI.pos i x hx hxc]
            rcases Nat.lt_trichotomy i j with hij | rfl | hij
            · rcases (pairOk_spec (pr i j x r hx hj hij)).2 with h1 | ⟨h1, _⟩
              · simp [hm i h1, hij]
              · rw [hxk, hread] at h1; cases h1
            · simp [hDj]
            · rcases (pairOk_spec (pr j i r x hj hx hij)).2 with h1 | ⟨h1, _⟩
              · constructor
                · intro hDi
                  have := hI.closed i j hDi h1
                  rw [hDj] at this; cases this
                · intro hlt; omega
              · rw [hxk, hread] at h1; cases h1
          have hplain := drawnOk_plain hd j r hj
          intro i hi hdead
          rw [List.mem_flatMap] at hi
          obtain ⟨x, hx, hi⟩ := hi
          rcases Nat.le_total p j with hpj | hpj
          · obtain ⟨k, rfl⟩ := Nat.exists_eq_add_of_le hpj
            obtain ⟨e, he⟩ := os_ext hst p k (by omega) fun i x h1 h2 hx => by
              by_cases hxe : isEff (kindOf x.o) = true
              · exfalso
                have := (noeff i x hx hxe).2 h2
                omega
              · simpa using hxe
            have hlt : i < (os p).length := by
              cases x with
              | t n => exact h.refs i hi
              | c v =>
                have := List.all_eq_true.1 hplain _ hx
                simp only [Opd.plain, List.isEmpty_iff] at this
                simp [evO, this] at hi
            rw [he, getC_append_left hlt]
          · obtain ⟨k, rfl⟩ := Nat.exists_eq_add_of_le hpj
            obtain ⟨e, he⟩ := os_ext hst j k hI.ple fun i x h1 h2 hx => by
              by_cases hxe : isEff (kindOf x.o) = true
              · exfalso
                have := (noeff i x hx hxe).1 h2
                omega
              · simpa using hxe
            rw [he, getC_append_left (getC_lt hdead)]
      · exact .inr ⟨t, b, g1, by rw [guard t b g1]; exact g2, g4, rfl⟩
    · intro i x hx hxc
      have hij : i ≠ j := fun e => by subst e; rw [hj] at hx; cases hx; rw [hc'] at hxc; cases hxc
      rw [h1 i hij]; exact hI.pos i x hx hxc

theorem mem_edgesOf {o : Oper} {e : Nat} : e ∈ edgesOf o ↔ ∃ g ∈ o.after, Region.binds .any g = true ∧ g.on = e := by
  simp [edgesOf, List.mem_filter, and_assoc]

theorem region_any {hs : List Nat} (he : edgesOk 0 ops.toList = true) (hd : drawnOk (masksOf ops.toList []) 0 rs = true) (ht : trRcs S.P hs ops ops.toList = some rs)
    (hst : ∀ j r, rs[j]? = some r → StepEv S true r ⟨frD (fun i => decide (i < j)) vs rs fr0, os j⟩ (vs j) (os (j + 1)))
    (hQ : ∀ a w, Sat S Y ⟨frD (fun _ => true) vs rs fr0, os rs.length⟩ a w → Q .normal a w) :
    ∀ (fuel : Nat) (listed : Array Bool) (p : Nat) (a : Act) (w : World), listed.size = ops.size → listed.toList.count false = fuel → InvD (masksOf ops.toList []) rs (fun i => listed.getD i false) p →
      Sat S Y ⟨frD (fun i => listed.getD i false) vs rs fr0, os p⟩ a w → wpAnyIn (fence Y.round) 0 S.P .any ops Q fuel listed a w := by
  have hlen := (trRcs_get ht).1
  simp only [Array.length_toList] at hlen
  have ends : ∀ (listed : Array Bool) (p : Nat) (a : Act) (w : World), listed.size = ops.size → InvD (masksOf ops.toList []) rs (fun i => listed.getD i false) p →
      Sat S Y ⟨frD (fun i => listed.getD i false) vs rs fr0, os p⟩ a w → Region.ready .any ops listed = [] → Q .normal a w := by
    intro listed p a w hsz hI h hr
    have all : ∀ j, j < ops.size → listed.getD j false = true := by
      intro j
      induction j using Nat.strongRecOn with
      | _ j ih =>
        intro hj
        cases hD : listed.getD j false with
        | true => rfl
        | false =>
          exfalso
          have ho : ops[j]? = some ops[j] := Array.getElem?_eq_getElem hj
          have : j ∈ Region.ready .any ops listed := mem_ready.2 ⟨by simpa [Array.getD_eq_getD_getElem?, hsz, hj] using hD, _, ho, fun e hea hb => by
            have := edgesOk_spec he j ops[j] (by simpa using ho) e.on (mem_edgesOf.2 ⟨e, hea, hb, rfl⟩)
            exact ih e.on (by omega) (by omega)⟩
          rw [hr] at this; cases this
    have e1 : frD (fun i => listed.getD i false) vs rs fr0 = frD (fun _ => true) vs rs fr0 :=
      listV_ext (by simp [frD_len]) fun t => frD_get rs _ _ _ _ _ t rfl rfl fun i r hi _ => all i (by rw [← hlen]; exact (List.getElem?_eq_some_iff.1 hi).1)
    have e2 : os rs.length = os p := by
      obtain ⟨k, hk⟩ := Nat.exists_eq_add_of_le hI.ple
      rw [hk]
      refine os_same hst p k (by omega) fun i r h1 h2 hr => ?_
      cases hc : isChain (kindOf r.o) with
      | false => rfl
      | true =>
        exfalso
        have := (hI.pos i r hr hc).1 (all i (by omega))
        omega
    rw [e1, ← e2] at h
    exact hQ a w h
  intro fuel
  induction fuel with
  | zero =>
    intro listed p a w hsz hc hI h
    have hr : Region.ready .any ops listed = [] := by
      rw [List.eq_nil_iff_forall_not_mem]
      intro j hj
      obtain ⟨h1, o, ho, _⟩ := mem_ready.1 hj
      have hlt : j < listed.size := by rw [hsz]; exact (Array.getElem?_eq_some_iff.1 ho).1
      simp only [Array.getD_eq_getD_getElem?, Array.getElem?_eq_getElem hlt, Option.getD_some] at h1
      have : false ∈ listed.toList := by rw [← h1]; simp
      have := List.count_pos_iff.2 this
      omega
    exact ⟨hr, ends listed p a w hsz hI h hr⟩
  | succ fuel ih =>
    intro listed p a w hsz hc hI h
    refine ⟨ends listed p a w hsz hI h, fun j hj => ?_⟩
    obtain ⟨h1, o, ho, hall⟩ := mem_ready.1 hj
    have hlt : j < ops.size := (Array.getElem?_eq_some_iff.1 ho).1
    have hlj : listed[j]? = some false := by
      have hl : j < listed.size := by omega
      simp only [Array.getD_eq_getD_getElem?, Array.getElem?_eq_getElem hl, Option.getD_some] at h1
      rw [Array.getElem?_eq_getElem hl, h1]
    obtain ⟨r, hr, htr⟩ := (trRcs_get ht).2 j o (by simpa using ho)
    have hDj : listed.getD j false = false := by simp [Array.getD_eq_getD_getElem?, hlj]
    have hedge : ∀ e ∈ edgesOf o, listed.getD e false = true := fun e hem => by
      obtain ⟨g, hg, hb, rfl⟩ := mem_edgesOf.1 hem
      exact hall g hg hb
    have hm : ∀ i, ((masksOf ops.toList []).getD j 0).testBit i = true → listed.getD i false = true := by
      intro i hb
      obtain ⟨e, hem, h2⟩ := masks_spec (l := ops.toList) (by simpa using ho) hb
      rcases h2 with rfl | h2
      · exact hedge i hem
      · exact hI.closed e i (hedge e hem) h2
    obtain ⟨p', hev, hnext⟩ := any_step hd hst hI hr hDj hm h
    refine step_rc ho htr h hev fun a' w' h' => ?_
    have hD : ∀ i, (listed.setIfInBounds j true).getD i false = if i = j then true else listed.getD i false := by
      intro i
      simp only [Array.getD_eq_getD_getElem?, Array.getElem?_setIfInBounds]
      by_cases e : j = i
      · subst e; simp [hsz, hlt]
      · simp [e, Ne.symm e]
    obtain ⟨hI', hf⟩ := hnext (fun i => (listed.setIfInBounds j true).getD i false) (fun i hi => by simp [hD, hi]) (by simp [hD])
    refine ih _ p' a' w' (by simp [hsz]) ?_ hI' (by rw [hf]; exact h')
    have := count_set listed.toList j (by simpa using hlj)
    simp only [Array.toList_setIfInBounds]
    omega
end
end Go.Fw
