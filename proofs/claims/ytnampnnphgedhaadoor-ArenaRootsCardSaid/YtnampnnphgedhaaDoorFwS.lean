/- The framework, part 19: regions in a drawn order. -/
import Derived.Test.YtnampnnphgedhaaDoorFwR
set_option linter.all false
namespace Go.Fw
open Go

/-! ### The checks -/
theorem edgesOk_spec : ∀ {l : List Oper} {k : Nat}, edgesOk k l = true → ∀ (i : Nat) (o : Oper), l[i]? = some o → ∀ e ∈ edgesOf o, e < k + i
  | [], _, _, _, _, h, _, _ => by simp at h
  | o :: l, k, h, 0, o', ho, e, he => by
    simp at ho; subst ho
    simp only [edgesOk, Bool.and_eq_true, List.all_eq_true, decide_eq_true_eq] at h
    simpa using h.1 e he
  | o :: l, k, h, i + 1, o', ho, e, he => by
    simp only [edgesOk, Bool.and_eq_true] at h
    have := edgesOk_spec h.2 i o' (by simpa using ho) e he
    omega
theorem pairsOk_spec {ms : List Nat} {i : Nat} {x : Rc} : ∀ {l : List Rc} {j : Nat}, pairsOk ms i x j l = true → ∀ (m : Nat) (y : Rc), l[m]? = some y → pairOk ms i (j + m) x y = true
  | [], _, _, _, _, h => by simp at h
  | y :: l, j, h, 0, y', hy => by
    simp at hy; subst hy
    simp only [pairsOk, Bool.and_eq_true] at h
    exact h.1
  | y :: l, j, h, m + 1, y', hy => by
    simp only [pairsOk, Bool.and_eq_true] at h
    have := pairsOk_spec h.2 m y' (by simpa using hy)
    rw [show j + (m + 1) = j + 1 + m by omega]
    exact this
theorem drawnOk_spec {ms : List Nat} : ∀ {l : List Rc} {k : Nat}, drawnOk ms k l = true → ∀ (i j : Nat) (x y : Rc), l[i]? = some x → l[j]? = some y → i < j → pairOk ms (k + i) (k + j) x y = true
  | [], _, _, _, _, _, _, h, _, _ => by simp at h
  | z :: l, k, h, 0, j, x, y, hx, hy, hij => by
    simp at hx; subst hx
    simp only [drawnOk, Bool.and_eq_true] at h
    obtain ⟨j, rfl⟩ := Nat.exists_eq_add_of_lt hij
    have := pairsOk_spec h.1.2 j y (by simpa [Nat.add_comm] using hy)
    rw [show k + (0 + j + 1) = k + 1 + j by omega]
    exact this
  | z :: l, k, h, i + 1, j, x, y, hx, hy, hij => by
    simp only [drawnOk, Bool.and_eq_true] at h
    obtain ⟨j, rfl⟩ : ∃ m, j = m + 1 := ⟨j - 1, by omega⟩
    have := drawnOk_spec h.2 i j x y (by simpa using hx) (by simpa using hy) (by omega)
    rw [show k + (i + 1) = k + 1 + i by omega, show k + (j + 1) = k + 1 + j by omega]
    exact this

theorem drawnOk_plain {ms : List Nat} : ∀ {l : List Rc} {k : Nat}, drawnOk ms k l = true → ∀ (i : Nat) (x : Rc), l[i]? = some x → x.o.opds.all Opd.plain = true
  | [], _, _, _, _, h => by simp at h
  | z :: l, k, h, 0, x, hx => by
    simp at hx; subst hx
    simp only [drawnOk, Bool.and_eq_true] at h
    exact h.1.1
  | z :: l, k, h, i + 1, x, hx => by
    simp only [drawnOk, Bool.and_eq_true] at h
    exact drawnOk_plain h.2 i x (by simpa using hx)

theorem maskOf_bit {acc : List Nat} {i : Nat} : ∀ {es : List Nat}, (maskOf acc es).testBit i = true → ∃ e ∈ es, i = e ∨ (acc.getD e 0).testBit i = true
  | [], h => by simp [maskOf] at h
  | e :: es, h => by
    simp only [maskOf, Nat.testBit_or, Bool.or_eq_true, Nat.testBit_two_pow, decide_eq_true_eq] at h
    rcases h with (h | h) | h
    · exact ⟨e, by simp, .inl h.symm⟩
    · exact ⟨e, by simp, .inr h⟩
    · obtain ⟨e', he, h⟩ := maskOf_bit h
      exact ⟨e', by simp [he], h⟩
theorem masksOf_pre : ∀ (l : List Oper) (acc : List Nat), ∃ t, masksOf l acc = acc ++ t ∧ t.length = l.length
  | [], acc => ⟨[], by simp [masksOf], rfl⟩
  | o :: l, acc => by
    obtain ⟨t, ht, hl⟩ := masksOf_pre l (acc ++ [maskOf acc (edgesOf o)])
    exact ⟨maskOf acc (edgesOf o) :: t, by simp [masksOf, ht], by simp [hl]⟩
theorem masksOf_get : ∀ (l : List Oper) (acc : List Nat) (j : Nat) (o : Oper), l[j]? = some o → (masksOf l acc)[acc.length + j]? = some (maskOf ((masksOf l acc).take (acc.length + j)) (edgesOf o))
  | [], _, _, _, h => by simp at h
  | o :: l, acc, 0, o', h => by
    simp at h; subst h
    obtain ⟨t, ht, _⟩ := masksOf_pre l (acc ++ [maskOf acc (edgesOf o)])
    simp [masksOf, ht]
  | o :: l, acc, j + 1, o', h => by
    have := masksOf_get l (acc ++ [maskOf acc (edgesOf o)]) j o' (by simpa using h)
    simp only [List.length_append, List.length_cons, List.length_nil] at this
    rw [show acc.length + (0 + 1) + j = acc.length + (j + 1) by omega] at this
    simpa [masksOf] using this
theorem masks_spec {l : List Oper} {j : Nat} {o : Oper} (h : l[j]? = some o) {i : Nat} (hb : ((masksOf l []).getD j 0).testBit i = true) :
    ∃ e ∈ edgesOf o, i = e ∨ ((masksOf l []).getD e 0).testBit i = true := by
  have := masksOf_get l [] j o h
  simp only [List.length_nil, Nat.zero_add] at this
  rw [List.getD_eq_getElem?_getD, this] at hb
  obtain ⟨e, he, hb⟩ := maskOf_bit hb
  refine ⟨e, he, hb.imp id fun hb => ?_⟩
  rw [List.getD_eq_getElem?_getD, List.getElem?_take] at hb
  split at hb
  · rw [List.getD_eq_getElem?_getD]; exact hb
  · simp at hb

def isEff : Kind → Bool
  | .eff => true
  | _ => false
def isChain : Kind → Bool
  | .eff => true
  | .alloc => true
  | _ => false

section
variable {S : Sx} {Y : Dyn} {s : St} {a : Act} {w : World} {ops : Array Oper} {Q : Exit → Act → World → Prop}

theorem StepEv.still {q : Bool} {r : Rc} {v : V} {own' : List Ch} (h : StepEv S q r s v own') (hq : q = true) (hk : isChain (kindOf r.o) = false) : own' = s.own := by
  rcases h with ⟨_, h, h3⟩ | ⟨_, _, _, _, _, h⟩
  · refine Ev_still ?_ (h3 hq) h
    generalize kindOf r.o = k at hk
    cases k <;> first | (cases hk; done) | exact .inl rfl | exact .inr rfl
  · exact h
theorem StepEv.ext {q : Bool} {r : Rc} {v : V} {own' : List Ch} (h : StepEv S q r s v own') (hq : q = true) (hk : isEff (kindOf r.o) = false) : ∃ e, own' = s.own ++ e := by
  by_cases hc : isChain (kindOf r.o) = false
  · exact ⟨[], by simp [h.still hq hc]⟩
  · have ha : kindOf r.o = .alloc := by
      generalize kindOf r.o = k at hk hc
      cases k <;> first | rfl | (exfalso; revert hk hc; simp [isEff, isChain])
    rcases h with ⟨_, h, _⟩ | ⟨_, _, _, _, _, h⟩
    · obtain ⟨c, hc⟩ := Ev_alloc ha h; exact ⟨[c], hc⟩
    · exact ⟨[], by simp [h]⟩

theorem Sat.refs (h : Sat S Y s a w) {t : Nat} : ∀ i ∈ (getV s.fr t).refs, i < s.own.length := by
  obtain ⟨H, an, F, ms, h⟩ := h
  intro i hi
  have hne : getV s.fr t ≠ .un := fun e => by rw [e] at hi; simp [V.refs] at hi
  obtain ⟨u, _, hd⟩ := h.fr.get (getV_some _ _ _ rfl hne)
  exact refsV_lt h.anc hd i hi

theorem getC_append_left : ∀ {l m : List Ch} {i : Nat}, i < l.length → getC (l ++ m) i = getC l i
  | _ :: _, _, 0, _ => rfl
  | _ :: l, m, i + 1, h => by simpa [getC] using getC_append_left (l := l) (m := m) (i := i) (by simpa using h)
  | [], _, _, h => by simp at h
theorem getC_lt : ∀ {l : List Ch} {i : Nat}, getC l i ≠ .dead → i < l.length
  | [], _, h => absurd rfl h
  | _ :: _, 0, _ => by simp
  | _ :: l, i + 1, h => by simpa using getC_lt (l := l) (i := i) (by simpa [getC] using h)
end
end Go.Fw
