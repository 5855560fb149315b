/- The framework, part 24: what is known is let go of; own memory becomes data; scopes. -/
import Derived.Test.YtnampnnphgedhaaDoorFwW
set_option linter.all false
namespace Go.Fw
open Go

section
variable {S : Sx} {Y : Dyn} {k : List MI} {s : St} {a : Act} {w w' : World} {H : Heap} {an : Anc} {F : Nat → Nat → Prop} {ms : List Nat}

theorem SatX.reframe (h : SatX S Y s a w H an F ms) {fr' : List V} (hf : All2 (DenV H an) fr' a.tmps.toList) : SatX S Y ⟨fr', s.own⟩ a w H an F ms :=
  ⟨h.gp, h.h0, h.mod, hf, h.anc, h.own, h.fl, h.fp, h.dj, h.hn, h.ub, h.os, h.tape, h.output, h.size, h.df, h.mks, h.nd, h.al, h.npl, h.ro⟩

/-! ### Slots let go of -/
def WeakF : List V → List V → Prop
  | [], [] => True
  | v :: l, u :: m => (u = .un ∨ u = v) ∧ WeakF l m
  | _, _ => False
theorem WeakF.den : ∀ {l m : List V} {us : List Value}, WeakF l m → All2 (DenV H an) l us → All2 (DenV H an) m us
  | [], [], [], _, _ => trivial
  | v :: l, u :: m, x :: us, h, hd => by
    refine ⟨?_, WeakF.den h.2 hd.2⟩
    rcases h.1 with rfl | rfl
    · trivial
    · exact hd.1
  | [], _ :: _, _, h, _ => h.elim
  | _ :: _, [], _, h, _ => h.elim
  | [], [], _ :: _, _, h => h.elim
  | _ :: _, _ :: _, [], _, h => h.elim
theorem G_weak (fr' : List V) (hf : WeakF s.fr fr') (h : G S k ⟨fr', s.own⟩) : G S k s := by
  rintro Y a w ⟨H, an, F, ms, hs⟩
  exact h Y a w ⟨H, an, F, ms, hs.reframe (hf.den hs.fr)⟩
theorem G_again_weak {p : St → Prop} (s' : St) (hf : WeakF s.fr s'.fr) (ho : s'.own = s.own) (h : p s') : G S (.again p :: k) s := by
  refine G_weak s'.fr hf (G_again ?_)
  rw [← ho]; exact h

/-! ### Chunks let go of -/
def ltAll (n : Nat) (l : List Nat) : Bool := l.all fun i => decide (i < n)
theorem ltAll_spec {n : Nat} {l : List Nat} (h : ltAll n l = true) : ∀ i ∈ l, i < n := fun i hi => by
  have := List.all_eq_true.1 h i hi; simpa using this

/-- Chunks behind the first n are forgotten. -/
theorem G_drop (n : Nat) (hn : S.np ≤ n) (h1 : (s.fr.all fun v => ltAll n v.refsT) = true) (h2 : ((s.own.take n).all fun c => ltAll n c.refs) = true) (h : G S k ⟨s.fr, s.own.take n⟩) : G S k s := by
  rintro Y a w ⟨H, an, F, ms, hs⟩
  refine h Y a w ⟨H, fun i => if i < n then an i else none, fun i b => i < n ∧ F i b, ms, ?_⟩
  refine ⟨hs.gp, hs.h0, hs.mod, ?_, ?_, ?_, ?_, ?_, ?_, hs.hn, hs.ub, hs.os, hs.tape, hs.output, hs.size, hs.df, ?_, hs.nd, ?_, hs.npl, hs.ro⟩
  · have : ∀ (l : List V) (m : List Value), (l.all fun v => ltAll n v.refsT) = true → All2 (DenV H an) l m → All2 (DenV H fun i => if i < n then an i else none) l m := by
      intro l
      induction l with
      | nil => intro m _ h; cases m <;> exact h
      | cons e l ih =>
        intro m hr h
        cases m with
        | nil => exact h.elim
        | cons en m =>
          simp only [List.all_cons, Bool.and_eq_true] at hr
          exact ⟨refsT_on h.1 fun i hi => if_pos (ltAll_spec hr.1 i hi), ih m hr.2 h.2⟩
    exact this _ _ h1 hs.fr
  · intro i
    simp only [List.length_take]
    by_cases e : i < n
    · simp only [if_pos e]; rw [hs.anc i]; omega
    · simp only [if_neg e]; constructor
      · rintro ⟨p, hp⟩; cases hp
      · intro; omega
  · intro i c hc
    rw [List.getElem?_take] at hc
    split at hc
    · rename_i hi
      obtain ⟨p, hp, hsc⟩ := hs.own i c hc
      refine ⟨p, by simp only [if_pos hi]; exact hp, ?_⟩
      have hcr := List.all_eq_true.1 h2 c (List.mem_of_getElem? (i := i) (by rw [List.getElem?_take, if_pos hi]; exact hc))
      have := hsc.on (bn := fun i => if i < n then an i else none) fun j hj => if_pos (ltAll_spec hcr j hj)
      have e : (fun b => i < n ∧ F i b) = F i := by funext b; simp [hi]
      rw [e]; exact this
    · cases hc
  · intro i b hb; have := hs.fl i b hb.2; simp only [List.length_take]; omega
  · exact fun i b hb => hs.fp i b hb.2
  · exact fun i j b hi hj => hs.dj i j b hi.2 hj.2
  · exact fun r hr => let ⟨g1, g2, g3, g4⟩ := hs.mks r hr; ⟨g1, g2, g3, fun i hi => g4 i hi.2⟩
  · refine ⟨fun i p hp => ?_⟩
    obtain ⟨q, hq, h3⟩ := hs.al.same i p hp
    have := hs.npl i p hp
    exact ⟨q, by show (if i < n then an i else none) = some q; rw [if_pos (by omega)]; exact hq, h3⟩

/-! ### Own memory becomes data -/
def sub0 (j : Nat) (c : Ch) : A → A
  | .own i ver => if i = j then (match c with
      | .row _ ver' xs => if ver' = ver then .d (.sl xs) else .un
      | _ => .un) else .own i ver
  | .ptr i off => if i = j then (match c with
      | .cells cs => (match allD cs with | some ds => .d (.bx (ds.drop off)) | none => .un)
      | _ => .un) else .ptr i off
  | .rp i ver sz e off => if i = j then (match c with
      | .row sz' ver' xs => if ver' = ver ∧ sz' = sz then (match xs[e]? with | some x => .d (.bx (x.drop off)) | none => .un) else .un
      | _ => .un) else .rp i ver sz e off
  | a => a
def subA (j : Nat) (c : Ch) : A → A
  | .clo f caps => (match allD (caps.map (sub0 j c)) with | some ds => .d (.fn f ds) | none => .clo f (caps.map (sub0 j c)))
  | .mvo f ag rcv => .mvo f ag (rcv.map (sub0 j c))
  | .ifo t a => (match sub0 j c a with | .d x => .d (.ifc t false [x]) | b => .ifo t b)
  | a => sub0 j c a
def subV (j : Nat) (c : Ch) : V → V
  | .one a => .one (subA j c a)
  | .agg l => .agg (l.map (subA j c))
  | v => v
def subT (j : Nat) (c : Ch) : V → V
  | .tup l => .tup (l.map (subV j c))
  | v => subV j c v
def subC (j : Nat) (c : Ch) : Ch → Ch
  | .cells cs => .cells (cs.map (subA j c))
  | .map es => .map (es.map fun e => (subV j c e.1, subV j c e.2))
  | x => x
/-- Can a chunk become data? -/
def Ch.froz : Ch → Bool
  | .row .. => true
  | .cells cs => (allD cs).isSome
  | _ => false

open Classical in
/-- What is known, and what lies in one chunk. -/
noncomputable def known (f : Nat → Prop) (w : World) (H : Heap) : Heap := fun b => if f b then w.heap[b]? else H b

section
variable {j : Nat} {c : Ch}
theorem known_le (h : SatX S Y s a w H an F ms) : Heap.Le H (known (F j) w H) := fun b o hb => by
  unfold known
  split
  · rename_i hx; rw [(h.fp j b hx).2.1] at hb; cases hb
  · exact hb
theorem known_models (h : SatX S Y s a w H an F ms) : Models w (known (F j) w H) := fun b o hb => by
  unfold known at hb
  split at hb
  · exact hb
  · exact h.mod b o hb
theorem known_at {b : Nat} (hF : F j b) : known (F j) w H b = w.heap[b]? := by
  unfold known; rw [if_pos hF]

theorem sub0_den (h : SatX S Y s a w H an F ms) (hc : getC s.own j = c) {x : A} {u : Value} (hx : DenA0 H an x u) : DenA0 (known (F j) w H) an (sub0 j c x) u := by
  have hle := known_le (j := j) h
  cases x with
  | own i ver =>
    simp only [sub0]
    split
    · rename_i e
      subst e
      split
      · rename_i sz ver' xs
        split
        · rename_i hv
          subst hv
          obtain ⟨p, hp, hps, h0, hsz, hlen, h4⟩ := h.row hc
          have hu : u = p := own_val hp (show DenV H an (.one (.own i ver')) u from hx)
          show Den _ _ _
          rcases h4 with ⟨rfl, ⟨A, rfl⟩, _⟩ | ⟨b, of, cap, vs, T, rfl, e2, e3, e4, e5, e6⟩
          · rw [hu]; exact Den.slE _ _
          · rw [hu]
            exact Dens.row (cells := vs) (T := T) (fz := (0, 0)) h0 (by rw [known_at ((e2 b).2 rfl)]; exact e3) hsz e4 hlen (Dens.mono hle e6)
        · trivial
      · trivial
    · exact DenA0.mono (a := .own i ver) hle (Anc.Le.refl _) hx
  | ptr i off =>
    simp only [sub0]
    split
    · rename_i e
      subst e
      split
      · rename_i cs
        split
        · rename_i ds hds
          obtain ⟨b, T, vs, hb, hF, hw, hd⟩ := h.box hc
          have hu := h.ptr hb (show DenV H an (.one (.ptr i off)) u from hx)
          have hdd := allD_den hds hd
          show Den _ _ _
          rw [hu]
          refine Den.bx _ b off vs.toArray T (0, 0) (fun k => vs.getD (off + k) undef) (by rw [known_at ((hF b).2 rfl)]; exact hw) (fun k y hy => ?_) (fun k y hy => ?_)
          · rw [List.getElem?_drop] at hy
            obtain ⟨q, hq, _⟩ := hdd.get hy
            simp [List.getD, hq]
          · rw [List.getElem?_drop] at hy
            obtain ⟨q, hq, hqd⟩ := hdd.get hy
            simp only [List.getD, hq, Option.getD_some]
            exact Den.mono hle hqd
        · trivial
      · trivial
    · exact DenA0.mono (a := .ptr i off) hle (Anc.Le.refl _) hx
  | rp i ver sz e off =>
    simp only [sub0]
    split
    · rename_i ei
      subst ei
      split
      · rename_i sz' ver' xs
        split
        · rename_i hv
          obtain ⟨rfl, rfl⟩ := hv
          split
          · rename_i y hy
            obtain ⟨p, hp, hps, h0, hsz, hlen, h4⟩ := h.row hc
            rcases h4 with ⟨rfl, _⟩ | ⟨b, of, cap, vs, T, rfl, e2, e3, e4, e5, e6⟩
            · simp at hy
            · have hu := h.rp hp (show DenV H an (.one (.rp i ver' sz' e off)) u from hx)
              have hd := Dens.elem hsz hy e6
              show Den _ _ _
              rw [hu]
              have key : ∀ (k : Nat) (z : D), (y.drop off)[k]? = some z → ∃ q, vs[of + e * sz' + off + k]? = some q ∧ Den H z q := by
                intro k z hz
                obtain ⟨q, hq, hqd⟩ := (hd.drop off).get hz
                refine ⟨q, ?_, hqd⟩
                rw [List.getElem?_drop, List.getElem?_take] at hq
                split at hq
                · rw [List.getElem?_drop, List.getElem?_take] at hq
                  split at hq
                  · rw [List.getElem?_drop] at hq
                    rw [← Array.getElem?_toList, ← hq]; congr 1; omega
                  · cases hq
                · cases hq
              refine Den.bx _ b (of + e * sz' + off) vs T (0, 0) (fun k => vs.getD (of + e * sz' + off + k) undef) (by rw [known_at ((e2 b).2 rfl)]; exact e3) (fun k z hz => ?_) (fun k z hz => ?_)
              · obtain ⟨q, hq, _⟩ := key k z hz
                simp [Array.getD_eq_getD_getElem?, hq]
              · obtain ⟨q, hq, hqd⟩ := key k z hz
                simp only [Array.getD_eq_getD_getElem?, hq, Option.getD_some]
                exact Den.mono hle hqd
          · trivial
        · trivial
      · trivial
    · exact DenA0.mono (a := .rp i ver sz e off) hle (Anc.Le.refl _) hx
  | d x => exact Den.mono hle hx
  | nil => exact hx
  | clo f caps => exact hx
  | mvo f ag rcv => exact hx
  | ifo t a => exact hx
  | un => trivial

theorem den0_den {x : A} {u : Value} (h : DenA0 H an x u) : DenA H an x u := by
  cases x <;> first | exact h | exact h.elim
theorem subA_den (h : SatX S Y s a w H an F ms) (hc : getC s.own j = c) {x : A} {u : Value} (hx : DenA H an x u) : DenA (known (F j) w H) an (subA j c x) u := by
  have base : ∀ {x : A} {u : Value}, DenA0 H an x u → DenA (known (F j) w H) an (sub0 j c x) u := fun hx => den0_den (sub0_den h hc hx)
  have all : ∀ {xs : List A} {us : List Value}, All2 (DenA0 H an) xs us → All2 (DenA0 (known (F j) w H) an) (xs.map (sub0 j c)) us := fun hx => by
    have := All2.map (R := DenA0 (known (F j) w H) an) (f := sub0 j c) (g := id) (fun a b hab => sub0_den h hc hab) hx
    simpa using this
  cases x with
  | clo f caps =>
    obtain ⟨vs, rfl, hv⟩ := hx
    simp only [subA]
    split
    · rename_i ds hds
      have hd := allD_den hds ((all hv).mono fun _ _ q => den0_den q)
      exact Den.fn f ds vs hd.length.symm fun k y v hy hv' => by
        obtain ⟨q, hq, hqd⟩ := hd.get hy
        rw [hv'] at hq; cases hq; exact hqd
    · exact ⟨vs, rfl, all hv⟩
  | mvo f ag rcv =>
    cases ag with
    | false => obtain ⟨v, rfl, hv⟩ := hx; exact ⟨v, rfl, all hv⟩
    | true => obtain ⟨vs, rfl, hv⟩ := hx; exact ⟨vs, rfl, all hv⟩
  | ifo t a =>
    obtain ⟨v, rfl, hv⟩ := hx
    have := sub0_den h hc hv
    simp only [subA]
    split
    · rename_i x e
      rw [e] at this
      exact Den.ifcV t x v this
    · exact ⟨v, rfl, this⟩
  | d x => exact base (x := .d x) hx
  | nil => exact base (x := .nil) hx
  | un => trivial
  | own i ver => exact base (x := .own i ver) hx
  | ptr i off => exact base (x := .ptr i off) hx
  | rp i ver sz e off => exact base (x := .rp i ver sz e off) hx
theorem subAs_den (h : SatX S Y s a w H an F ms) (hc : getC s.own j = c) {xs : List A} {us : List Value} (hx : DenAs H an xs us) : DenAs (known (F j) w H) an (xs.map (subA j c)) us := by
  have := All2.map (R := DenA (known (F j) w H) an) (f := subA j c) (g := id) (fun a b hab => subA_den h hc hab) hx
  simpa using this
theorem subV_den (h : SatX S Y s a w H an F ms) (hc : getC s.own j = c) {x : V} {u : Value} (hx : DenV1 H an x u) : DenV1 (known (F j) w H) an (subV j c x) u := by
  cases x with
  | one a => exact subA_den h hc hx
  | agg l => obtain ⟨vs, rfl, hv⟩ := hx; exact ⟨vs, rfl, subAs_den h hc hv⟩
  | tup l => exact hx
  | un => trivial
theorem subT_den (h : SatX S Y s a w H an F ms) (hc : getC s.own j = c) {x : V} {u : Value} (hx : DenV H an x u) : DenV (known (F j) w H) an (subT j c x) u := by
  cases x with
  | tup l =>
    obtain ⟨vs, rfl, hv⟩ := hx
    refine ⟨vs, rfl, ?_⟩
    have := All2.map (R := DenV1 (known (F j) w H) an) (f := subV j c) (g := id) (fun a b hab => subV_den h hc hab) hv
    simpa using this
  | one a => exact subV_den (x := .one a) h hc hx
  | agg l => exact subV_den (x := .agg l) h hc hx
  | un => trivial
theorem subC_den (h : SatX S Y s a w H an F ms) (hc : getC s.own j = c) {x : Ch} {p : Nat × Value} {f : Nat → Prop} (hx : SatCh H an w x p f) : SatCh (known (F j) w H) an w (subC j c x) p f := by
  have hk := hx.keep (w' := w) (known_le (j := j) h) (Anc.Le.refl _) fun _ _ => rfl
  cases x with
  | cells cs => obtain ⟨h0, b, T, vs, h1, h2, h3, h4⟩ := hx; exact ⟨h0, b, T, vs, h1, h2, h3, subAs_den h hc h4⟩
  | map es =>
    obtain ⟨h0, b, ents, clk, h1, h2, h3, h4⟩ := hx
    refine ⟨h0, b, ents, clk, h1, h2, h3, ?_⟩
    have := All2.map (R := fun (e : V × V) (en : MapEntry) => DenV1 (known (F j) w H) an e.1 en.key ∧ DenV1 (known (F j) w H) an e.2 en.val) (f := fun e => (subV j c e.1, subV j c e.2)) (g := id) (fun a b hab => ⟨subV_den h hc hab.1, subV_den h hc hab.2⟩) h4
    simpa using this
  | _ => exact hk
end

/-- The state when a chunk has become data. -/
def frzS (j : Nat) (s : St) : St := ⟨s.fr.map (subT j (getC s.own j)), (s.own.map (subC j (getC s.own j))).set j .dead⟩
theorem SatX.freeze (h : SatX S Y s a w H an F ms) (j : Nat) : SatX S Y (frzS j s) a w (known (F j) w H) an (fun i b => i ≠ j ∧ F i b) ms := by
  have h1 := h.evolve (may := fun _ => False) (own' := (s.own.map (subC j (getC s.own j))).set j .dead) (F' := fun i b => i ≠ j ∧ F i b) (WKeep.refl w _) (fun _ hb => hb.elim) (known_le (j := j) h) (known_models h) (fun b o hb => by
      unfold known at hb
      split at hb
      · rename_i hx; exact .inr (.inr ⟨j, hx⟩)
      · exact .inl hb) (Anc.Le.refl _) (fun i => by simp [h.anc i]) (fun i c hc => by
      rw [List.getElem?_set] at hc
      split at hc
      · rename_i e
        subst e
        split at hc
        · rename_i hl
          cases hc
          simp at hl
          obtain ⟨p, hp⟩ := (h.anc j).2 hl
          exact ⟨p, hp, fun b hb => hb.1 rfl⟩
        · cases hc
      · rename_i e
        rw [List.getElem?_map] at hc
        cases e' : s.own[i]? with
        | none => simp [e'] at hc
        | some c0 =>
          simp [e'] at hc
          subst hc
          obtain ⟨p, hp, hs⟩ := h.own i c0 e'
          have ef : (fun b => i ≠ j ∧ F i b) = F i := by funext b; simp [Ne.symm e]
          refine ⟨p, hp, ?_⟩
          rw [ef]
          exact subC_den h rfl hs) (fun i b hb => by
      obtain ⟨g1, g2, g3⟩ := h.fp i b hb.2
      refine ⟨by simpa using h.fl i b hb.2, g1, ?_, .inr ⟨i, hb.2⟩⟩
      unfold known
      rw [if_neg (fun hj => hb.1 (h.dj i j b hb.2 hj))]
      exact g2) (fun i i' b hi hi' => h.dj i i' b hi.2 hi'.2)
  refine h1.reframe ?_
  have := All2.map (R := DenV (known (F j) w H) an) (f := subT j (getC s.own j)) (g := id) (fun a b hab => subT_den h rfl hab) h.fr
  simpa using this
/-- OWN MEMORY BECOMES DATA. -/
theorem G_freeze (j : Nat) (h : G S k (frzS j s)) : G S k s := by
  rintro Y a w ⟨H, an, F, ms, hs⟩
  exact h Y a w ⟨_, _, _, ms, hs.freeze j⟩

/-! ### Scopes -/
theorem Mx_goto : ∀ {k : List MI} {l : Nat} {a : Act} {w : World}, ¬ Mx S Y k (.goto l) a w
  | [], _, _, _, h => h
  | .code _ :: k, _, _, _, h => Mx_goto (k := k) h
  | .blk _ :: k, _, _, _, h => Mx_goto (k := k) h
  | .again _ :: k, _, _, _, h => Mx_goto (k := k) h
  | .rnd _ :: _, _, _, _, h => by rcases h.1 with h | h | ⟨_, h⟩ <;> cases h
  | .fin :: _, _, _, _, h => by rcases h.1 with h | h <;> cases h
theorem stepR_scope {P : Program} {b : Frame} {cs : List Frame} {k : List Item} {c : Code} : step P (lone (b.atR a (.code (.scope c) :: k)) cs w) = .next (lone (b.atR a (.code c :: .inScope c :: k)) cs w) :=
  step_lone_go (by simp [stepG, stepG.exec, Frame.atR])
theorem stepR_inScope {P : Program} {b : Frame} {cs : List Frame} {k : List Item} {c : Code} : step P (lone (b.atR a (.inScope c :: k)) cs w) = .next (lone (b.atR a k) cs w) :=
  step_lone_go (by simp [stepG, stepG.exec, Frame.atR])
theorem wpIn_scope {F : Fence} {n : Nat} {P : Program} {c : Code} {Q : Exit → Act → World → Prop} (hg : ∀ l a w, ¬ Q (.goto l) a w) (h : c.wpIn F n P Q a w) : (Code.scope c).wpIn F n P Q a w := by
  intro b k cs hro hb hr
  have h0 : (lone (b.atR a (.code (.scope c) :: k)) cs w).fenced P F := fenced_calm hb hr rfl
  obtain ⟨e, a₁, w₁, hq, harr⟩ := h b (.inScope c :: k) cs hro hb hr
  cases e with
  | normal => exact ⟨.normal, a₁, w₁, hq, .head h0 stepR_scope (StepsIn.trans harr (.one (fenced_calm hb hr rfl) stepR_inScope))⟩
  | exit id =>
    have hx : exitTo id (.inScope c :: k) = exitTo id k := by simp [exitTo]
    exact ⟨.exit id, a₁, w₁, hq, fun k' hk => .head h0 stepR_scope (harr.1 k' (by rw [hx]; exact hk)),
      fun hr' hk => let ⟨k₁, h1, h2⟩ := harr.2 hr' (by rw [hx]; exact hk); ⟨k₁, h1, .head h0 stepR_scope h2⟩⟩
  | goto l => exact absurd hq (hg l a₁ w₁)
  | ret => exact ⟨_, a₁, w₁, hq, .of_steps (.one h0 stepR_scope) harr⟩
  | panic ch => exact ⟨_, a₁, w₁, hq, .of_steps (.one h0 stepR_scope) harr⟩
  | outgrown => exact ⟨_, a₁, w₁, hq, .of_steps (.one h0 stepR_scope) harr⟩
theorem G_scope {x : MC} (h : G S (.code x :: k) s) : G S (.code (.scope x) :: k) s := by
  intro Y a w hs hs' c hc
  obtain ⟨c1, rfl, h1⟩ := trC_scope hc
  exact wpIn_scope (fun _ _ _ => Mx_goto) (h Y a w hs hs' c1 h1)
end
end Go.Fw
