/- The framework, part 15: calls; an operation's step in the model. -/
import Derived.Test.YtnampnnphgedhaaDoorFwN
set_option linter.all false
namespace Go.Fw
open Go

section
variable {S : Sx} {Y : Dyn} {s : St} {a : Act} {w w' : World} {H : Heap} {an : Anc} {F : Nat → Nat → Prop} {ms : List Nat} {o : Oper} {v : V}

/-! ### Values stand by the anchors that they lead to -/
theorem refs0_on {bn : Anc} {x : A} {u : Value} (h : DenA0 H an x u) (hr : ∀ i ∈ x.refs0, bn i = an i) : DenA0 H bn x u := by
  cases x with
  | own i ver => obtain ⟨h1, p, hp, h2⟩ := h; exact ⟨h1, p, by rw [hr i (by simp [A.refs0]), hp], h2⟩
  | ptr i off => obtain ⟨b, h1, p, hp, h2⟩ := h; exact ⟨b, h1, p, by rw [hr i (by simp [A.refs0]), hp], h2⟩
  | rp i ver sz e off => obtain ⟨b, q, h1, p, hp, h2⟩ := h; exact ⟨b, q, h1, p, by rw [hr i (by simp [A.refs0]), hp], h2⟩
  | _ => exact h
theorem refs0s_on {bn : Anc} : ∀ {xs : List A} {us : List Value}, All2 (DenA0 H an) xs us → (∀ i ∈ xs.flatMap A.refs0, bn i = an i) → All2 (DenA0 H bn) xs us
  | [], [], _, _ => trivial
  | x :: xs, u :: us, h, hr => ⟨refs0_on h.1 fun i hi => hr i (by simp [hi]), refs0s_on h.2 fun i hi => hr i (by simp only [List.flatMap_cons, List.mem_append]; exact .inr hi)⟩
theorem refs_on {bn : Anc} {x : A} {u : Value} (h : DenA H an x u) (hr : ∀ i ∈ x.refs, bn i = an i) : DenA H bn x u := by
  cases x with
  | clo f caps => obtain ⟨vs, e, hv⟩ := h; exact ⟨vs, e, refs0s_on hv hr⟩
  | mvo f ag rcv =>
    cases ag with
    | false => obtain ⟨v, e, hv⟩ := h; exact ⟨v, e, refs0s_on hv hr⟩
    | true => obtain ⟨vs, e, hv⟩ := h; exact ⟨vs, e, refs0s_on hv hr⟩
  | ifo t a => obtain ⟨v, e, hv⟩ := h; exact ⟨v, e, refs0_on hv hr⟩
  | d x => exact h
  | nil => exact h
  | un => trivial
  | own i ver => exact refs0_on (H := H) (x := .own i ver) h hr
  | ptr i off => exact refs0_on (H := H) (x := .ptr i off) h hr
  | rp i ver sz e off => exact refs0_on (H := H) (x := .rp i ver sz e off) h hr
theorem refsA_on {bn : Anc} : ∀ {xs : List A} {us : List Value}, DenAs H an xs us → (∀ i ∈ xs.flatMap A.refs, bn i = an i) → DenAs H bn xs us
  | [], [], _, _ => trivial
  | x :: xs, u :: us, h, hr => ⟨refs_on h.1 fun i hi => hr i (by simp [hi]), refsA_on h.2 fun i hi => hr i (by simp only [List.flatMap_cons, List.mem_append]; exact .inr hi)⟩
theorem refsV1_on {bn : Anc} {x : V} {u : Value} (h : DenV1 H an x u) (hr : ∀ i ∈ x.refs, bn i = an i) : DenV1 H bn x u := by
  cases x with
  | one a => exact refs_on (H := H) (x := a) h hr
  | agg l => obtain ⟨vs, e, hv⟩ := h; exact ⟨vs, e, refsA_on hv hr⟩
  | tup l => exact h
  | un => trivial
theorem refsVs_on {bn : Anc} : ∀ {xs : List V} {us : List Value}, All2 (DenV1 H an) xs us → (∀ i ∈ xs.flatMap V.refs, bn i = an i) → All2 (DenV1 H bn) xs us
  | [], [], _, _ => trivial
  | x :: xs, u :: us, h, hr => ⟨refsV1_on h.1 fun i hi => hr i (by simp [hi]), refsVs_on h.2 fun i hi => hr i (by simp only [List.flatMap_cons, List.mem_append]; exact .inr hi)⟩
theorem refsT_on {bn : Anc} {x : V} {u : Value} (h : DenV H an x u) (hr : ∀ i ∈ x.refsT, bn i = an i) : DenV H bn x u := by
  cases x with
  | tup l => obtain ⟨vs, e, hv⟩ := h; exact ⟨vs, e, refsVs_on hv hr⟩
  | one a => exact refsV1_on (x := .one a) h hr
  | agg l => exact refsV1_on (x := .agg l) h hr
  | un => trivial

theorem SatCh.on {bn : Anc} {c : Ch} {p : Nat × Value} {f : Nat → Prop} (h : SatCh H an w c p f) (hr : ∀ i ∈ c.refs, bn i = an i) : SatCh H bn w c p f := by
  cases c with
  | cells cs => obtain ⟨h0, b, T, vs, h1, h2, h3, h4⟩ := h; exact ⟨h0, b, T, vs, h1, h2, h3, refsA_on h4 hr⟩
  | map es =>
    obtain ⟨h0, b, ents, clk, h1, h2, h3, h4⟩ := h
    refine ⟨h0, b, ents, clk, h1, h2, h3, ?_⟩
    have : ∀ (l : List (V × V)) (m : List MapEntry), (∀ i ∈ l.flatMap fun e => e.1.refs ++ e.2.refs, bn i = an i) → All2 (fun e en => DenV1 H an e.1 en.key ∧ DenV1 H an e.2 en.val) l m → All2 (fun e en => DenV1 H bn e.1 en.key ∧ DenV1 H bn e.2 en.val) l m := by
      intro l
      induction l with
      | nil => intro m _ h; cases m <;> exact h
      | cons e l ih =>
        intro m hr h
        cases m with
        | nil => exact h.elim
        | cons en m =>
          simp only [List.flatMap_cons, List.mem_append] at hr
          exact ⟨⟨refsV1_on h.1.1 fun i hi => hr i (.inl (.inl hi)), refsV1_on h.1.2 fun i hi => hr i (.inl (.inr hi))⟩, ih m (fun i hi => hr i (.inr hi)) h.2⟩
    exact this es _ hr h4
  | lp l fr rc st pd =>
    obtain ⟨h1, h2, h3⟩ := h
    refine ⟨h1, h2, ?_⟩
    have : ∀ (l : List V) (m : List Value), (∀ i ∈ l.flatMap V.refsT, bn i = an i) → All2 (DenV H an) l m → All2 (DenV H bn) l m := by
      intro l
      induction l with
      | nil => intro m _ h; cases m <;> exact h
      | cons x l ih =>
        intro m hr h
        cases m with
        | nil => exact h.elim
        | cons y m => exact ⟨refsT_on h.1 fun i hi => hr i (by simp [hi]), ih m (fun i hi => hr i (by simp only [List.flatMap_cons, List.mem_append]; exact .inr hi)) h.2⟩
    exact this _ _ hr h3
  | _ => exact h

/-- Is a chunk lent? -/
def Ch.lends : Ch → Bool
  | .row .. => true
  | .cells _ => true
  | _ => false
open Classical in
/-- What is known, and what lies in rows and boxes. -/
noncomputable def lent (own : List Ch) (F : Nat → Nat → Prop) (w : World) (H : Heap) : Heap := fun b =>
  if ∃ i, F i b ∧ (getC own i).lends = true then w.heap[b]? else H b

theorem lent_le (h : SatX S Y s a w H an F ms) : Heap.Le H (lent s.own F w H) := fun b o hb => by
  unfold lent
  split
  · rename_i hx; obtain ⟨i, hi, _⟩ := hx; rw [(h.fp i b hi).2.1] at hb; cases hb
  · exact hb
theorem lent_models (h : SatX S Y s a w H an F ms) : Models w (lent s.own F w H) := fun b o hb => by
  unfold lent at hb
  split at hb
  · exact hb
  · exact h.mod b o hb
theorem lent_at {i b : Nat} (hF : F i b) (hl : (getC s.own i).lends = true) : lent s.own F w H b = w.heap[b]? := by
  unfold lent
  rw [if_pos ⟨i, hF, hl⟩]

theorem lendA_den (h : SatX S Y s a w H an F ms) {x : A} {y : D} {u : Value} (hx : DenA H an x u) (hl : lendA s.own x = some y) : Den (lent s.own F w H) y u := by
  have hle := lent_le h
  cases x with
  | d z => cases hl; exact Den.mono hle hx
  | nil => cases hl; obtain ⟨a, rfl⟩ := hx; exact Den.slE _ _
  | own j ver =>
    simp only [lendA] at hl
    split at hl
    · rename_i sz ver' xs hc
      split at hl
      · rename_i hv
        cases hl
        subst hv
        obtain ⟨p, hp, hps, h0, hsz, hlen, h4⟩ := h.row hc
        have hu : u = p := own_val hp (show DenV H an (.one (.own j ver')) u from hx)
        rcases h4 with ⟨rfl, ⟨A, rfl⟩, _⟩ | ⟨b, of, cap, vs, T, rfl, e2, e3, e4, e5, e6⟩
        · rw [hu]; exact Den.slE _ _
        · rw [hu]
          exact Dens.row (cells := vs) (T := T) (fz := (0, 0)) h0 (by rw [lent_at ((e2 b).2 rfl) (by rw [hc]; rfl)]; exact e3) hsz e4 hlen (Dens.mono hle e6)
      · cases hl
    · cases hl
  | ptr j off =>
    simp only [lendA] at hl
    split at hl
    · rename_i cs hc
      split at hl
      · rename_i ds hds
        cases hl
        obtain ⟨b, T, vs, hb, hF, hw, hd⟩ := h.box hc
        have hu := h.ptr hb (show DenV H an (.one (.ptr j off)) u from hx)
        have hdd := allD_den hds hd
        rw [hu]
        refine Den.bx _ b off vs.toArray T (0, 0) (fun k => vs.getD (off + k) undef) (by rw [lent_at ((hF b).2 rfl) (by rw [hc]; rfl)]; exact hw) (fun k y hy => ?_) (fun k y hy => ?_)
        · rw [List.getElem?_drop] at hy
          obtain ⟨q, hq, _⟩ := hdd.get hy
          simp [List.getD, hq]
        · rw [List.getElem?_drop] at hy
          obtain ⟨q, hq, hqd⟩ := hdd.get hy
          simp only [List.getD, hq, Option.getD_some]
          exact Den.mono hle hqd
      · cases hl
    · cases hl
  | rp i ver sz e off => cases hl
  | clo f caps => cases hl
  | mvo f ag rcv => cases hl
  | ifo t a => cases hl
  | un => cases hl

theorem lendAs_den (h : SatX S Y s a w H an F ms) (bn : Anc) : ∀ {xs : List A} {ys : List D} {us : List Value}, DenAs H an xs us → lendAs s.own xs = some ys → DenAs (lent s.own F w H) bn (ys.map .d) us
  | [], ys, [], _, hl => by simp [lendAs] at hl; subst hl; trivial
  | x :: xs, ys, u :: us, hx, hl => by
    simp only [lendAs] at hl
    split at hl
    · rename_i y r h1 h2
      cases hl
      exact ⟨lendA_den h hx.1 h1, lendAs_den h bn hx.2 h2⟩
    · cases hl

theorem lendV_den (h : SatX S Y s a w H an F ms) (bn : Anc) {x y : V} {u : Value} (hx : DenV H an x u) (hl : lendV s.own x = some y) : DenV (lent s.own F w H) bn y u := by
  cases x with
  | one a =>
    simp only [lendV] at hl
    split at hl
    · rename_i z hz; cases hl; exact lendA_den h hx hz
    · cases hl
  | agg l =>
    simp only [lendV] at hl
    split at hl
    · rename_i z hz; cases hl; obtain ⟨vs, rfl, hv⟩ := hx; exact ⟨vs, rfl, lendAs_den h bn hv hz⟩
    · cases hl
  | tup l => cases hl
  | un => cases hl

theorem lendL_den (h : SatX S Y s a w H an F ms) (bn : Anc) : ∀ {xs ys : List V} {us : List Value}, All2 (DenV H an) xs us → lendL s.own xs = some ys → All2 (DenV (lent s.own F w H) bn) ys us
  | [], ys, [], _, hl => by simp [lendL] at hl; subst hl; trivial
  | x :: xs, ys, u :: us, hx, hl => by
    simp only [lendL] at hl
    split at hl
    · rename_i y r h1 h2
      cases hl
      exact ⟨lendV_den h bn hx.1 h1, lendL_den h bn hx.2 h2⟩
    · cases hl

/-- Data alone need no loan. -/
theorem lendA_data (bn : Anc) {own : List Ch} {x : A} {y : D} {u : Value} (hx : DenA H an x u) (hd : x.data = true) (hl : lendA own x = some y) : Den H y u := by
  cases x <;> first | (cases hd; done) | skip
  · cases hl; exact hx
  · cases hl; obtain ⟨a, rfl⟩ := hx; exact Den.slE _ _
theorem lendAs_data (bn : Anc) {own : List Ch} : ∀ {xs : List A} {ys : List D} {us : List Value}, DenAs H an xs us → xs.all A.data = true → lendAs own xs = some ys → DenAs H bn (ys.map .d) us
  | [], ys, [], _, _, hl => by simp [lendAs] at hl; subst hl; trivial
  | x :: xs, ys, u :: us, hx, hd, hl => by
    simp only [List.all_cons, Bool.and_eq_true] at hd
    simp only [lendAs] at hl
    split at hl
    · rename_i y r h1 h2
      cases hl
      exact ⟨lendA_data bn hx.1 hd.1 h1, lendAs_data bn hx.2 hd.2 h2⟩
    · cases hl
theorem lendL_data (bn : Anc) {own : List Ch} : ∀ {xs ys : List V} {us : List Value}, All2 (DenV H an) xs us → xs.all V.data = true → lendL own xs = some ys → All2 (DenV H bn) ys us
  | [], ys, [], _, _, hl => by simp [lendL] at hl; subst hl; trivial
  | x :: xs, ys, u :: us, hx, hd, hl => by
    simp only [List.all_cons, Bool.and_eq_true] at hd
    simp only [lendL] at hl
    split at hl
    · rename_i y r h1 h2
      cases hl
      refine ⟨?_, lendL_data bn hx.2 hd.2 h2⟩
      have hx1 := hx.1
      cases x with
      | one a =>
        simp only [lendV] at h1
        split at h1
        · rename_i z hz; cases h1; exact lendA_data bn hx1 hd.1 hz
        · cases h1
      | agg l =>
        simp only [lendV] at h1
        split at h1
        · rename_i z hz; cases h1; obtain ⟨vs, rfl, hv⟩ := hx1; exact ⟨vs, rfl, lendAs_data bn hv hd.1 hz⟩
        · cases h1
      | tup l => cases h1
      | un => cases h1
    · cases hl

/-- What leads to no memory is so whatever is known. -/
theorem D.scal_den {K : Heap} {x : D} {u : Value} (h : Den H x u) (hs : x.scal = true) : Den K x u := by
  cases h <;> first | (cases hs; done) | constructor <;> assumption | constructor
theorem A.scal_den {K : Heap} {bn : Anc} {x : A} {u : Value} (h : DenA H an x u) (hs : x.scal = true) : DenA K bn x u := by
  cases x <;> first | (cases hs; done) | skip
  · exact D.scal_den (x := _) h hs
  · trivial
theorem As.scal_den {K : Heap} {bn : Anc} : ∀ {xs : List A} {us : List Value}, DenAs H an xs us → xs.all A.scal = true → DenAs K bn xs us
  | [], [], _, _ => trivial
  | _ :: _, _ :: _, h, hs => by
    simp only [List.all_cons, Bool.and_eq_true] at hs
    exact ⟨A.scal_den h.1 hs.1, As.scal_den h.2 hs.2⟩
theorem V.scal1_den {K : Heap} {bn : Anc} {x : V} {u : Value} (h : DenV1 H an x u) (hs : x.scal1 = true) : DenV1 K bn x u := by
  cases x with
  | one a => exact A.scal_den (x := a) h hs
  | agg l => obtain ⟨vs, e, hv⟩ := h; exact ⟨vs, e, As.scal_den hv hs⟩
  | tup l => cases hs
  | un => trivial
theorem Vs.scal_den {K : Heap} {bn : Anc} : ∀ {xs : List V} {us : List Value}, All2 (DenV1 H an) xs us → xs.all V.scal1 = true → All2 (DenV1 K bn) xs us
  | [], [], _, _ => trivial
  | _ :: _, _ :: _, h, hs => by
    simp only [List.all_cons, Bool.and_eq_true] at hs
    exact ⟨V.scal1_den h.1 hs.1, Vs.scal_den h.2 hs.2⟩
theorem V.scal_den {K : Heap} {bn : Anc} {x : V} {u : Value} (h : DenV H an x u) (hs : x.scal = true) : DenV K bn x u := by
  cases x with
  | tup l => obtain ⟨vs, e, hv⟩ := h; exact ⟨vs, e, Vs.scal_den hv hs⟩
  | one a => exact V.scal1_den (x := .one a) h hs
  | agg l => exact V.scal1_den (x := .agg l) h hs
  | un => trivial

/-- A call of a function of data. -/
theorem call_sound {f : FuncId} {args : List V} {vs : List Value} (h : SatX S Y s a w H an F ms) (hc : CallV S f args s.own v) (ha : All2 (DenV H an) args vs) :
    callable S.P f = true ∧ Calls S.P f vs.toArray w fun e w' => ∃ u H', e = .returned u ∧ SatX S Y s a w' H' an F ms ∧ DenV H' an v u := by
  obtain ⟨l, hl, ⟨hcal, htri⟩, hk⟩ := hc
  refine ⟨hcal, ?_⟩
  have none_le : ∀ bn cn : Anc, (∀ i, (∃ p, bn i = some p) ↔ i < ([] : List Ch).length) → Anc.Le bn cn := fun bn cn hb => ⟨fun i p hp => by
    have := (hb i).1 ⟨p, hp⟩; simp at this⟩
  rcases hk with hk | hk
  · have hd := lendL_data (fun _ => none) ha hk hl
    have := htri H w (fun _ => none) (fun _ _ => False) vs h.gp h.mod (by simp) (by simp) (by simp) (by simp) hd
    intro cs
    obtain ⟨e, w', fr, ⟨u, res, post, H', an', F', rfl, ⟨rfl, rfl⟩, hw, hH, hmod, hnew, _, han, _, _, _, hden⟩, h2, h3, h4⟩ := this cs
    refine ⟨_, w', fr, ⟨u, H', rfl, ?_, ?_⟩, h2, h3, h4⟩
    · exact h.grow (hw.mono fun _ hx => by obtain ⟨_, hx⟩ := hx; exact hx) hH hmod (fun b o hb => by
        rcases hnew b o hb with h5 | h5 | ⟨_, h5⟩
        · exact .inl h5
        · exact .inr h5
        · exact h5.elim)
    · exact DenV.mono (Heap.Le.refl _) (none_le _ _ han) hden
  · have hd := lendL_den h (fun _ => none) ha hl
    have := htri (lent s.own F w H) w (fun _ => none) (fun _ _ => False) vs (h.gp.trans (lent_le h)) (lent_models h) (by simp) (by simp) (by simp) (by simp) hd
    intro cs
    obtain ⟨e, w', fr, ⟨u, res, post, H', an', F', rfl, ⟨rfl, rfl⟩, hw, hH, hmod, hnew, _, han, _, _, _, hden⟩, h2, h3, h4⟩ := this cs
    have hw' : WKeep w w' (fun _ => False) := hw.mono fun _ hx => by obtain ⟨_, hx⟩ := hx; exact hx
    refine ⟨_, w', fr, ⟨u, H, rfl, ?_, V.scal_den hden hk⟩, h2, h3, h4⟩
    exact h.grow hw' (Heap.Le.refl _) (h.models hw' fun _ hx => hx.elim) (fun b o hb => .inl hb)

theorem refs0_lt {H : Heap} {an : Anc} {n : Nat} (ha : ∀ i, (∃ p, an i = some p) ↔ i < n) {x : A} {u : Value} (h : DenA0 H an x u) : ∀ i ∈ x.refs0, i < n := by
  cases x <;> simp only [A.refs0, List.mem_singleton, List.not_mem_nil, false_implies, implies_true]
  · rintro i rfl; obtain ⟨_, p, hp, _⟩ := h; exact (ha _).1 ⟨p, hp⟩
  · rintro i rfl; obtain ⟨_, _, p, hp, _⟩ := h; exact (ha _).1 ⟨p, hp⟩
  · rintro i rfl; obtain ⟨_, _, _, p, hp, _⟩ := h; exact (ha _).1 ⟨p, hp⟩
theorem refs0s_lt {H : Heap} {an : Anc} {n : Nat} (ha : ∀ i, (∃ p, an i = some p) ↔ i < n) : ∀ {xs : List A} {us : List Value}, All2 (DenA0 H an) xs us → ∀ i ∈ xs.flatMap A.refs0, i < n
  | [], _, _, i, hi => by simp at hi
  | x :: xs, u :: us, h, i, hi => by
    simp only [List.flatMap_cons, List.mem_append] at hi
    rcases hi with hi | hi
    · exact refs0_lt ha h.1 i hi
    · exact refs0s_lt ha h.2 i hi
theorem refs_lt {H : Heap} {an : Anc} {n : Nat} (ha : ∀ i, (∃ p, an i = some p) ↔ i < n) {x : A} {u : Value} (h : DenA H an x u) : ∀ i ∈ x.refs, i < n := by
  cases x with
  | clo f caps => obtain ⟨vs, _, hv⟩ := h; exact refs0s_lt ha hv
  | mvo f ag rcv =>
    cases ag with
    | false => obtain ⟨v, _, hv⟩ := h; exact refs0s_lt ha hv
    | true => obtain ⟨vs, _, hv⟩ := h; exact refs0s_lt ha hv
  | ifo t a => obtain ⟨v, _, hv⟩ := h; exact refs0_lt ha hv
  | d x => exact refs0_lt (H := H) ha (x := .d x) h
  | nil => exact fun i hi => by simp [A.refs, A.refs0] at hi
  | own i ver => exact refs0_lt (H := H) ha (x := .own i ver) h
  | ptr i off => exact refs0_lt (H := H) ha (x := .ptr i off) h
  | rp i ver sz e off => exact refs0_lt (H := H) ha (x := .rp i ver sz e off) h
  | un => exact fun i hi => by simp [A.refs, A.refs0] at hi
theorem refsV_lt {H : Heap} {an : Anc} {n : Nat} (ha : ∀ i, (∃ p, an i = some p) ↔ i < n) {x : V} {u : Value} (h : DenV H an x u) : ∀ i ∈ x.refs, i < n := by
  cases x with
  | one a => exact refs_lt (H := H) ha (x := a) h
  | agg l =>
    obtain ⟨vs, _, hv⟩ := h
    intro i hi
    simp only [V.refs, List.mem_flatMap] at hi
    obtain ⟨x, hx, hi⟩ := hi
    obtain ⟨k, hk⟩ := List.mem_iff_getElem?.1 hx
    obtain ⟨u, _, hd⟩ := hv.get hk
    exact refs_lt ha hd i hi
  | tup l => intro i hi; simp [V.refs] at hi
  | un => intro i hi; simp [V.refs] at hi
/-! ### A call that writes one own chunk -/
section
variable {bn : Anc} {j : Nat}
theorem renA_den (hb : bn 0 = an j) {x y : A} {u : Value} (hx : DenA H an x u) (hr : renA j x = some y) : DenA H bn y u := by
  cases x with
  | d z => cases hr; exact hx
  | nil => cases hr; obtain ⟨a, rfl⟩ := hx; exact Den.slE _ _
  | own i ver =>
    simp only [renA] at hr
    split at hr
    · rename_i e; subst e; cases hr
      obtain ⟨h1, p, hp, h2⟩ := hx
      exact ⟨h1, p, by rw [hb, hp], h2⟩
    · cases hr
  | ptr i off =>
    simp only [renA] at hr
    split at hr
    · rename_i e; subst e; cases hr
      obtain ⟨b, h1, p, hp, h2⟩ := hx
      exact ⟨b, h1, p, by rw [hb, hp], h2⟩
    · cases hr
  | ifo t a =>
    cases a with
    | ptr i off =>
      simp only [renA] at hr
      split at hr
      · rename_i e; subst e; cases hr
        obtain ⟨w, rfl, b, h1, p, hp, h2⟩ := hx
        exact ⟨w, rfl, b, h1, p, by rw [hb, hp], h2⟩
      · cases hr
    | _ => cases hr
  | _ => cases hr
theorem renAs_den (hb : bn 0 = an j) : ∀ {xs ys : List A} {us : List Value}, DenAs H an xs us → renAs j xs = some ys → DenAs H bn ys us
  | [], ys, [], _, hr => by simp [renAs] at hr; subst hr; trivial
  | x :: xs, ys, u :: us, hx, hr => by
    simp only [renAs] at hr
    split at hr
    · rename_i y r h1 h2; cases hr; exact ⟨renA_den hb hx.1 h1, renAs_den hb hx.2 h2⟩
    · cases hr
theorem renV_den (hb : bn 0 = an j) {x y : V} {u : Value} (hx : DenV H an x u) (hr : renV j x = some y) : DenV H bn y u := by
  cases x with
  | one a =>
    simp only [renV] at hr
    split at hr
    · rename_i z hz; cases hr; exact renA_den hb (x := a) hx hz
    · cases hr
  | agg l =>
    simp only [renV] at hr
    split at hr
    · rename_i z hz; cases hr; obtain ⟨vs, rfl, hv⟩ := hx; exact ⟨vs, rfl, renAs_den hb hv hz⟩
    · cases hr
  | tup l => cases hr
  | un => cases hr
theorem renL_den (hb : bn 0 = an j) : ∀ {xs ys : List V} {us : List Value}, All2 (DenV H an) xs us → renL j xs = some ys → All2 (DenV H bn) ys us
  | [], ys, [], _, hr => by simp [renL] at hr; subst hr; trivial
  | x :: xs, ys, u :: us, hx, hr => by
    simp only [renL] at hr
    split at hr
    · rename_i y r h1 h2; cases hr; exact ⟨renV_den hb hx.1 h1, renL_den hb hx.2 h2⟩
    · cases hr
theorem backA_den (hb : bn j = an 0) {x : A} {u : Value} (hx : DenA H an x u) : DenA H bn (backA j x) u := by
  unfold backA
  split
  · obtain ⟨h1, p, hp, h2⟩ := hx; exact ⟨h1, p, by rw [hb, hp], h2⟩
  · obtain ⟨b, h1, p, hp, h2⟩ := hx; exact ⟨b, h1, p, by rw [hb, hp], h2⟩
  · exact hx
  · exact hx
  · trivial
theorem back1_den (hb : bn j = an 0) {x : V} {u : Value} (hx : DenV1 H an x u) : DenV1 H bn (back1 j x) u := by
  cases x with
  | one a => exact backA_den (x := a) hb hx
  | agg l =>
    obtain ⟨vs, rfl, hv⟩ := hx
    refine ⟨vs, rfl, ?_⟩
    have := All2.map (R := DenA H bn) (f := backA j) (g := id) (fun a b hab => backA_den hb hab) hv
    simpa using this
  | tup l => exact hx.elim
  | un => trivial
theorem backV_den (hb : bn j = an 0) {x : V} {u : Value} (hx : DenV H an x u) : DenV H bn (backV j x) u := by
  cases x with
  | tup l =>
    obtain ⟨vs, rfl, hv⟩ := hx
    refine ⟨vs, rfl, ?_⟩
    have := All2.map (R := DenV1 H bn) (f := back1 j) (g := id) (fun a b hab => back1_den hb hab) hv
    simpa using this
  | one a => exact back1_den (x := .one a) hb hx
  | agg l => exact back1_den (x := .agg l) hb hx
  | un => trivial
end

theorem callm_sound {f : FuncId} {args : List V} {vs : List Value} {j : Nat} {v0 : V} {c' : Ch} (h : SatX S Y s a w H an F ms) (hc : CallM S f args s.own j v0 c') (ha : All2 (DenV H an) args vs) :
    callable S.P f = true ∧ Calls S.P f vs.toArray w fun e w' => ∃ u H' an' F', e = .returned u ∧ SatX S Y ⟨s.fr, setC s.own j c'⟩ a w' H' an' F' ms ∧ DenV H' an' (backV j v0) u := by
  obtain ⟨l, hl, hj, _, hr1, hr2, hcal, htri⟩ := hc
  refine ⟨hcal, ?_⟩
  have hjl : j < s.own.length := by
    rw [List.contains_iff_mem, List.mem_flatMap] at hj
    obtain ⟨x, hx, hj⟩ := hj
    obtain ⟨i, hi⟩ := List.mem_iff_getElem?.1 hx
    obtain ⟨u, _, hd⟩ := ha.get hi
    exact refsV_lt h.anc hd j hj
  have hget : ∀ (l : List Ch) (i : Nat), i < l.length → l[i]? = some (getC l i) := by
    intro l
    induction l with
    | nil => intro i hi; simp at hi
    | cons c l ih =>
      intro i hi
      cases i with
      | zero => rfl
      | succ i => simpa [getC] using ih i (by simpa using hi)
  obtain ⟨p, hp, hsc⟩ := h.own j _ (hget s.own j hjl)
  let an1 : Anc := fun i => if i = 0 then an j else none
  let F1 : Nat → Nat → Prop := fun i b => i = 0 ∧ F j b
  have hargs : All2 (DenV H an1) l vs := renL_den (an := an) (j := j) (bn := an1) (by simp [an1]) ha hl
  have hF1 : F1 0 = F j := by funext b; simp [F1]
  have hcalls := htri H w an1 F1 vs h.gp h.mod (fun i => by
      simp only [an1, List.length_cons, List.length_nil]
      by_cases e : i = 0
      · subst e; simp [hp]
      · simp [e]) (fun i c hc => by
      cases i with
      | zero =>
        simp at hc
        subst hc
        refine ⟨p, hp, ?_⟩
        rw [hF1]
        exact hsc.on fun i hi => by rw [hr1] at hi; cases hi
      | succ i => simp at hc) (fun i b hb => by
      obtain ⟨g1, g2, _⟩ := h.fp j b hb.2
      exact ⟨by rw [hb.1]; simp, g1, g2⟩) (fun i i' b hb hb' => by rw [hb.1, hb'.1]) hargs
  intro cs
  obtain ⟨e, w', fr, ⟨u, res, post, H', an', F', rfl, ⟨rfl, rfl⟩, hw, hH, hmod, hnew, hle, han, hown, hF', hdj, hden⟩, h2, h3, h4⟩ := hcalls cs
  obtain ⟨p', hp', hsc'⟩ := hown 0 c' rfl
  have hmay : ∀ b, (∃ i, F1 i b) → ∃ i, F i b := fun b ⟨i, hi⟩ => ⟨j, hi.2⟩
  have hp0 : p' = p ∨ (p.1 < p'.1 ∧ ∃ a n c, p'.2 = .slice a n c) := by
    obtain ⟨q, hq, h5⟩ := hle.same 0 p hp
    rw [hp'] at hq; cases hq; exact h5
  have hle2 : Anc.Le an (an.put j p') := ⟨fun i q hq => by
    unfold Anc.put
    by_cases e : i = j
    · subst e
      rw [hp] at hq; cases hq
      exact ⟨p', by simp, hp0⟩
    · exact ⟨q, by simp [e, hq], .inl rfl⟩⟩
  refine ⟨_, w', fr, ⟨u, H', an.put j p', fun i b => if i = j then F' 0 b else F i b, rfl, ?_, backV_den (by simp [Anc.put, hp']) hden⟩, h2, h3, h4⟩
  rw [setC_eq]
  refine h.evolve (may := fun b => ∃ i, F1 i b) hw hmay hH hmod (fun b o hb => by
      rcases hnew b o hb with h5 | h5 | ⟨i, h5⟩
      · exact .inl h5
      · exact .inr (.inl h5)
      · exact .inr (.inr ⟨j, h5.2⟩)) hle2 (fun i => by
      rw [List.length_set]
      unfold Anc.put
      by_cases e : i = j
      · subst e; simp [hjl]
      · rw [if_neg e]; exact h.anc i) (fun i c hc => by
      rw [List.getElem?_set] at hc
      by_cases e : j = i
      · subst e
        simp only [if_true, if_pos hjl] at hc
        cases hc
        refine ⟨p', by simp [Anc.put], ?_⟩
        simp only [if_true]
        exact hsc'.on fun i hi => by rw [hr2] at hi; cases hi
      · rw [if_neg e] at hc
        obtain ⟨q, hq, hs⟩ := h.own i c hc
        refine ⟨q, by simp [Anc.put, Ne.symm e, hq], ?_⟩
        have := hs.keep (w' := w') hH hle2 (fun x hx => hw.block x (h.fp i x hx).1 (fun ⟨_, hm⟩ => e (h.dj j i x hm.2 hx)))
        simpa [Ne.symm e] using this) (fun i b hb => by
      rw [List.length_set]
      by_cases e : i = j
      · subst e
        simp only [if_true] at hb
        obtain ⟨_, g1, g2, g3⟩ := hF' 0 b hb
        exact ⟨hjl, g1, g2, g3.imp id fun ⟨_, q⟩ => ⟨_, q.2⟩⟩
      · simp only [if_neg e] at hb
        obtain ⟨g1, g2, g3⟩ := h.fp i b hb
        refine ⟨h.fl i b hb, Nat.lt_of_lt_of_le g1 hw.size, ?_, .inr ⟨i, hb⟩⟩
        cases e' : H' b with
        | none => rfl
        | some o =>
          rcases hnew b o e' with h5 | h5 | ⟨_, h5⟩
          · rw [g2] at h5; cases h5
          · omega
          · exact absurd (h.dj i j b hb h5.2) e) (fun i i' b hb hb' => by
      by_cases e : i = j <;> by_cases e' : i' = j
      · omega
      · simp only [if_pos e] at hb; simp only [if_neg e'] at hb'
        exfalso
        rcases (hF' 0 b hb).2.2.2 with h5 | ⟨_, h5⟩
        · have := (h.fp i' b hb').1; omega
        · exact e' (h.dj i' j b hb' h5.2)
      · simp only [if_pos e'] at hb'; simp only [if_neg e] at hb
        exfalso
        rcases (hF' 0 b hb').2.2.2 with h5 | ⟨_, h5⟩
        · have := (h.fp i b hb).1; omega
        · exact e (h.dj i j b hb h5.2)
      · simp only [if_neg e] at hb; simp only [if_neg e'] at hb'
        exact h.dj i i' b hb hb')
/-- One more chunk that is no chunk. -/
theorem SatX.add_dead (h : SatX S Y s a w H an F ms) : SatX S Y { s with own := s.own ++ [.dead] } a w H (an.put s.own.length (0, .nilFunc)) (fun j b => if j = s.own.length then False else F j b) ms :=
  h.add_own (WKeep.refl w _) (fun _ hb => hb.elim) (fun _ hb => hb)
theorem Sat.add_dead (h : Sat S Y s a w) : Sat S Y { s with own := s.own ++ [.dead] } a w := by
  obtain ⟨H, an, F, ms, h⟩ := h
  exact ⟨_, _, _, _, h.add_dead⟩

/-- A call that is handed all. -/
theorem calla_sound {f : FuncId} {args : List V} {vs : List Value} {own1 : List Ch} (h : SatX S Y s a w H an F ms) (hc : CallA S f args s.own v own1) (ha : All2 (DenV H an) args vs) :
    callable S.P f = true ∧ Calls S.P f vs.toArray w fun e w' => ∃ u H' an' F', e = .returned u ∧ SatX S Y ⟨s.fr, own1⟩ a w' H' an' F' ms ∧ DenV H' an' v u := by
  obtain ⟨hcal, htri⟩ := hc
  refine ⟨hcal, ?_⟩
  have hcalls := htri H w an F vs h.gp h.mod h.anc h.own (fun i b hb => ⟨h.fl i b hb, (h.fp i b hb).1, (h.fp i b hb).2.1⟩) h.dj ha
  intro cs
  obtain ⟨e, w', fr, ⟨u, res, post, H', an', F', rfl, ⟨rfl, rfl⟩, hw, hH, hmod, hnew, hle, han, hown, hF', hdj, hden⟩, h2, h3, h4⟩ := hcalls cs
  exact ⟨_, w', fr, ⟨u, H', an', F', rfl, h.evolve hw (fun b hb => hb) hH hmod hnew hle han hown hF' hdj, hden⟩, h2, h3, h4⟩
end
end Go.Fw
