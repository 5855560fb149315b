/- The framework, part 1: pure data, symbolic values, what they denote in a heap. Nothing of a program stands here. -/
import Derived.OrdersIn
import Derived.RangeFuncIn
import Derived.RangeFuncLeaves
import Derived.RangeFuncRecord
import Derived.Below
import Derived.Laws.Cells
import Derived.Laws.CopyRow
set_option linter.all false
namespace Go.Fw
open Go

/-- What is known of blocks that never turn again. -/
abbrev Heap := Nat → Option Obj
def Heap.Le (H K : Heap) : Prop := ∀ b o, H b = some o → K b = some o
theorem Heap.Le.refl (H : Heap) : Heap.Le H H := fun _ _ h => h
theorem Heap.Le.trans {A B C : Heap} (h : Heap.Le A B) (k : Heap.Le B C) : Heap.Le A C := fun b o e => k b o (h b o e)
def Models (w : World) (H : Heap) : Prop := ∀ b o, H b = some o → w.heap[b]? = some o

/-- Pure data: one cell. -/
inductive D where
  | int (k : IntKind) (n : Int)
  | bool (b : Bool)
  | str (s : ByteArray)
  | sl (xs : List (List D))
  | bx (cs : List D)
  | ifc (t : TypeId) (ag : Bool) (cs : List D)
  | nilI | nilF | nilP
  | fn (f : Fn) (caps : List D)
  | mv (f : Fn) (ag : Bool) (rcv : List D)
  | raw (v : Value)

/-- Pointwise. -/
def All2 {α β : Type} (R : α → β → Prop) : List α → List β → Prop
  | [], [] => True
  | a :: l, b :: m => R a b ∧ All2 R l m
  | _, _ => False

section
variable {α β : Type} {R R' : α → β → Prop}
theorem All2.length : ∀ {l : List α} {m : List β}, All2 R l m → l.length = m.length
  | [], [], _ => rfl
  | _ :: _, _ :: _, h => by simp [All2.length h.2]
theorem All2.mono (h : ∀ a b, R a b → R' a b) : ∀ {l : List α} {m : List β}, All2 R l m → All2 R' l m
  | [], [], _ => trivial
  | _ :: _, _ :: _, k => ⟨h _ _ k.1, All2.mono h k.2⟩
theorem All2.get : ∀ {l : List α} {m : List β}, All2 R l m → ∀ {i : Nat} {a : α}, l[i]? = some a → ∃ b, m[i]? = some b ∧ R a b
  | a :: _, b :: _, h, 0, x, e => ⟨b, rfl, by simp at e; subst e; exact h.1⟩
  | _ :: _, _ :: _, h, i + 1, x, e => by simpa using All2.get h.2 (i := i) (a := x) (by simpa using e)
theorem All2.of_get : ∀ {l : List α} {m : List β}, l.length = m.length → (∀ (i : Nat) (a : α) (b : β), l[i]? = some a → m[i]? = some b → R a b) → All2 R l m
  | [], [], _, _ => trivial
  | a :: l, b :: m, h, k => ⟨k 0 a b rfl rfl, All2.of_get (by simpa using h) fun i a b e f => k (i + 1) a b (by simpa using e) (by simpa using f)⟩
  | [], _ :: _, h, _ => by simp at h
  | _ :: _, [], h, _ => by simp at h
theorem All2.append : ∀ {l l' : List α} {m m' : List β}, All2 R l m → All2 R l' m' → All2 R (l ++ l') (m ++ m')
  | [], _, [], _, _, k => k
  | _ :: _, _, _ :: _, _, h, k => ⟨h.1, All2.append h.2 k⟩
theorem All2.drop : ∀ {l : List α} {m : List β} (n : Nat), All2 R l m → All2 R (l.drop n) (m.drop n)
  | [], [], n, _ => by simp [All2]
  | _ :: _, _ :: _, 0, h => h
  | _ :: _, _ :: _, n + 1, h => by simpa using All2.drop n h.2
theorem All2.take : ∀ {l : List α} {m : List β} (n : Nat), All2 R l m → All2 R (l.take n) (m.take n)
  | [], [], n, _ => by simp [All2]
  | _ :: _, _ :: _, 0, h => by simp [All2]
  | _ :: _, _ :: _, n + 1, h => by simpa [All2] using ⟨h.1, All2.take n h.2⟩
theorem All2.set : ∀ {l : List α} {m : List β} (n : Nat) {a : α} {b : β}, All2 R l m → R a b → All2 R (l.set n a) (m.set n b)
  | [], [], n, _, _, _, _ => by simp [All2]
  | _ :: _, _ :: _, 0, _, _, h, k => ⟨k, h.2⟩
  | _ :: _, _ :: _, n + 1, _, _, h, k => ⟨h.1, All2.set n h.2 k⟩
theorem All2.replicate {a : α} {b : β} (h : R a b) : ∀ n, All2 R (List.replicate n a) (List.replicate n b)
  | 0 => trivial
  | n + 1 => ⟨h, All2.replicate h n⟩
theorem All2.map {γ δ : Type} {S : γ → δ → Prop} {f : γ → α} {g : δ → β} (h : ∀ a b, S a b → R (f a) (g b)) : ∀ {l : List γ} {m : List δ}, All2 S l m → All2 R (l.map f) (m.map g)
  | [], [], _ => trivial
  | _ :: _, _ :: _, k => ⟨h _ _ k.1, All2.map h k.2⟩
theorem All2.flat {γ δ : Type} {f : α → List γ} {g : β → List δ} {S : γ → δ → Prop} (h : ∀ a b, R a b → All2 S (f a) (g b)) : ∀ {l : List α} {m : List β}, All2 R l m → All2 S (l.flatMap f) (m.flatMap g)
  | [], [], _ => trivial
  | _ :: _, _ :: _, k => by simpa using All2.append (h _ _ k.1) (All2.flat h k.2)
end

/-- The bound on lengths that data bear. -/
def lenMax : Nat := 4611686018427387904

/-- A one-cell value of data. -/
inductive Den (H : Heap) : D → Value → Prop
  | int (k : IntKind) (n : Int) : Den H (.int k n) (.int k n)
  | bool (b : Bool) : Den H (.bool b) (.bool b)
  | str (s : ByteArray) : Den H (.str s) (.string s)
  | nilI : Den H .nilI .nilIface
  | nilF : Den H .nilF .nilFunc
  | nilP : Den H .nilP (.pointer none)
  | raw (v : Value) : v.oneCell' = true → Den H (.raw v) v
  | slE (A : Option Addr) (c : Nat) : Den H (.sl []) (.slice A 0 c)
  | sl (xs : List (List D)) (b o c sz : Nat) (cells : Array Value) (T : TypeId) (fz : Nat × Nat) (f : Nat → Nat → Value) :
      H b = some (.cells cells T fz) → (∀ x ∈ xs, x.length = sz) → xs.length ≤ c → xs.length < lenMax →
      (∀ (i : Nat) (x : List D) (j : Nat) (y : D), xs[i]? = some x → x[j]? = some y → cells[o + i * sz + j]? = some (f i j)) →
      (∀ (i : Nat) (x : List D) (j : Nat) (y : D), xs[i]? = some x → x[j]? = some y → Den H y (f i j)) → Den H (.sl xs) (.slice (some ⟨b, o, none⟩) xs.length c)
  | bx (cs : List D) (b o : Nat) (cells : Array Value) (T : TypeId) (fz : Nat × Nat) (f : Nat → Value) :
      H b = some (.cells cells T fz) → (∀ (j : Nat) (y : D), cs[j]? = some y → cells[o + j]? = some (f j)) →
      (∀ (j : Nat) (y : D), cs[j]? = some y → Den H y (f j)) → Den H (.bx cs) (.pointer (some ⟨b, o, none⟩))
  | ifcV (t : TypeId) (c : D) (v : Value) : Den H c v → Den H (.ifc t false [c]) (.iface t v)
  | ifcA (t : TypeId) (cs : List D) (vs : List Value) : vs.length = cs.length → (∀ (j : Nat) (y : D) (v : Value), cs[j]? = some y → vs[j]? = some v → Den H y v) →
      Den H (.ifc t true cs) (.iface t (.agg vs.toArray))
  | fn (f : Fn) (caps : List D) (vs : List Value) : vs.length = caps.length → (∀ (j : Nat) (y : D) (v : Value), caps[j]? = some y → vs[j]? = some v → Den H y v) →
      Den H (.fn f caps) (.func f #[] vs.toArray)
  | mvV (f : Fn) (c : D) (v : Value) : Den H c v → Den H (.mv f false [c]) (.func f #[v] #[])
  | mvA (f : Fn) (cs : List D) (vs : List Value) : vs.length = cs.length → (∀ (j : Nat) (y : D) (v : Value), cs[j]? = some y → vs[j]? = some v → Den H y v) →
      Den H (.mv f true cs) (.func f #[.agg vs.toArray] #[])

theorem Den.mono {H K : Heap} (h : Heap.Le H K) {x : D} {v : Value} (k : Den H x v) : Den K x v := by
  induction k with
  | int k n => exact .int k n
  | bool b => exact .bool b
  | str s => exact .str s
  | nilI => exact .nilI
  | nilF => exact .nilF
  | nilP => exact .nilP
  | raw v hv => exact .raw v hv
  | slE A c => exact .slE A c
  | sl xs b o c sz cells T fz f hb hs hc hl hf _ ih => exact .sl xs b o c sz cells T fz f (h _ _ hb) hs hc hl hf ih
  | bx cs b o cells T fz f hb hf _ ih => exact .bx cs b o cells T fz f (h _ _ hb) hf ih
  | ifcV t c v _ ih => exact .ifcV t c v ih
  | ifcA t cs vs hl _ ih => exact .ifcA t cs vs hl ih
  | fn f caps vs hl _ ih => exact .fn f caps vs hl ih
  | mvV f c v _ ih => exact .mvV f c v ih
  | mvA f cs vs hl _ ih => exact .mvA f cs vs hl ih

theorem Den.oneCell {H : Heap} {x : D} {v : Value} (k : Den H x v) : v.oneCell' = true := by
  cases k <;> first | rfl | assumption

/-- Several cells of data. -/
abbrev Dens (H : Heap) : List D → List Value → Prop := All2 (Den H)
theorem Dens.mono {H K : Heap} (h : Heap.Le H K) {l : List D} {m : List Value} (k : Dens H l m) : Dens K l m := All2.mono (fun _ _ => Den.mono h) k

/-- A symbolic cell: data; or what hangs on the activation's own chunks of memory. -/
inductive A where
  | d (x : D)
  | nil
  | own (i ver : Nat)
  | ptr (i off : Nat)
  | rp (i ver sz e off : Nat)
  | clo (f : Fn) (caps : List A)
  | mvo (f : Fn) (ag : Bool) (rcv : List A)
  | ifo (t : TypeId) (a : A)
  | un

/-- Where the own chunks lie: a version, a value. -/
abbrev Anc := Nat → Option (Nat × Value)

def DenA0 (H : Heap) (an : Anc) : A → Value → Prop
  | .d x, v => Den H x v
  | .nil, v => ∃ a, v = .slice a 0 0
  | .own i ver, v => v.oneCell' = true ∧ ∃ p, an i = some p ∧ ver ≤ p.1 ∧ (p.1 = ver → v = p.2)
  | .ptr i off, v => ∃ b, v = .pointer (some ⟨b, off, none⟩) ∧ ∃ p, an i = some p ∧ ∀ b', p.2 = .pointer (some ⟨b', 0, none⟩) → b = b'
  | .rp i ver sz e off, v => ∃ b q, v = .pointer (some ⟨b, q + e * sz + off, none⟩) ∧ ∃ p, an i = some p ∧ ver ≤ p.1 ∧ (p.1 = ver → ∀ b' o n c, p.2 = .slice (some ⟨b', o, none⟩) n c → b = b' ∧ q = o)
  | .un, _ => True
  | _, _ => False

def DenA (H : Heap) (an : Anc) : A → Value → Prop
  | .clo f caps, v => ∃ vs, v = .func f #[] vs.toArray ∧ All2 (DenA0 H an) caps vs
  | .mvo f false rcv, v => ∃ u, v = .func f #[u] #[] ∧ All2 (DenA0 H an) rcv [u]
  | .mvo f true rcv, v => ∃ vs, v = .func f #[.agg vs.toArray] #[] ∧ All2 (DenA0 H an) rcv vs
  | .ifo t a, v => ∃ u, v = .iface t u ∧ DenA0 H an a u
  | a, v => DenA0 H an a v

/-- Anchors that agree on what is there. -/
structure Anc.Le (an bn : Anc) : Prop where
  same : ∀ i p, an i = some p → ∃ q, bn i = some q ∧ (q = p ∨ (p.1 < q.1 ∧ ∃ a n c, q.2 = .slice a n c))

theorem Anc.Le.refl (an : Anc) : Anc.Le an an := ⟨fun _ p h => ⟨p, h, .inl rfl⟩⟩
theorem Anc.Le.trans {a b c : Anc} (h : Anc.Le a b) (k : Anc.Le b c) : Anc.Le a c := ⟨fun i p e => by
  obtain ⟨q, hq, h1⟩ := h.same i p e
  obtain ⟨r, hr, h2⟩ := k.same i q hq
  refine ⟨r, hr, ?_⟩
  rcases h1 with rfl | ⟨h1, _⟩
  · exact h2
  · rcases h2 with rfl | ⟨h2, h3⟩
    · exact .inr ⟨h1, ‹_›⟩
    · exact .inr ⟨Nat.lt_trans h1 h2, h3⟩⟩

theorem DenA0.mono {H K : Heap} {an bn : Anc} (h : Heap.Le H K) (k : Anc.Le an bn) {a : A} {v : Value} (hd : DenA0 H an a v) : DenA0 K bn a v := by
  cases a with
  | d x => exact Den.mono h hd
  | nil => exact hd
  | own i ver =>
    obtain ⟨h1, p, hp, hle, he⟩ := hd
    obtain ⟨q, hq, hqp⟩ := k.same i p hp
    refine ⟨h1, q, hq, ?_, ?_⟩
    · rcases hqp with rfl | ⟨hlt, _⟩
      · exact hle
      · omega
    · intro e
      rcases hqp with rfl | ⟨hlt, _⟩
      · exact he e
      · omega
  | ptr i off =>
    obtain ⟨b0, h1, p, hp, he⟩ := hd
    obtain ⟨q, hq, hqp⟩ := k.same i p hp
    refine ⟨b0, h1, q, hq, fun b e => ?_⟩
    rcases hqp with rfl | ⟨_, a, n, c, e'⟩
    · exact he b e
    · rw [e'] at e; cases e
  | rp i ver sz e off =>
    obtain ⟨b0, q0, h1, p, hp, hle, he⟩ := hd
    obtain ⟨q, hq, hqp⟩ := k.same i p hp
    refine ⟨b0, q0, h1, q, hq, ?_, ?_⟩
    · rcases hqp with rfl | ⟨hlt, _⟩
      · exact hle
      · omega
    · intro e
      rcases hqp with rfl | ⟨hlt, _⟩
      · exact he e
      · omega
  | clo f caps => exact hd
  | mvo f ag rcv => exact hd
  | ifo t a => exact hd
  | un => trivial

theorem DenA.mono {H K : Heap} {an bn : Anc} (h : Heap.Le H K) (k : Anc.Le an bn) {a : A} {v : Value} (hd : DenA H an a v) : DenA K bn a v := by
  cases a with
  | clo f caps => obtain ⟨vs, rfl, hv⟩ := hd; exact ⟨vs, rfl, All2.mono (fun _ _ => DenA0.mono h k) hv⟩
  | mvo f ag rcv =>
    cases ag with
    | false => obtain ⟨u, rfl, hv⟩ := hd; exact ⟨u, rfl, All2.mono (fun _ _ => DenA0.mono h k) hv⟩
    | true => obtain ⟨vs, rfl, hv⟩ := hd; exact ⟨vs, rfl, All2.mono (fun _ _ => DenA0.mono h k) hv⟩
  | ifo t a => obtain ⟨u, rfl, hv⟩ := hd; exact ⟨u, rfl, DenA0.mono h k hv⟩
  | d x => exact DenA0.mono (a := .d x) h k hd
  | nil => exact hd
  | own i ver => exact DenA0.mono (a := .own i ver) h k hd
  | ptr i off => exact DenA0.mono (a := .ptr i off) h k hd
  | rp i ver sz e off => exact DenA0.mono (a := .rp i ver sz e off) h k hd
  | un => trivial

abbrev DenAs (H : Heap) (an : Anc) : List A → List Value → Prop := All2 (DenA H an)

/-- Is a cell known? -/
def A.solid : A → Bool
  | .un => false
  | _ => true
theorem DenA.oneCell {H : Heap} {an : Anc} {a : A} {v : Value} (hd : DenA H an a v) (hs : a.solid = true) : v.oneCell' = true := by
  cases a with
  | clo f caps => obtain ⟨vs, rfl, hv⟩ := hd; rfl
  | mvo f ag rcv =>
    cases ag with
    | false => obtain ⟨u, rfl, hv⟩ := hd; rfl
    | true => obtain ⟨vs, rfl, hv⟩ := hd; rfl
  | ifo t a => obtain ⟨u, rfl, hv⟩ := hd; rfl
  | d x => exact Den.oneCell (x := x) hd
  | nil => obtain ⟨a, rfl⟩ := hd; rfl
  | own i ver => exact hd.1
  | ptr i off => obtain ⟨b, rfl, _⟩ := hd; rfl
  | rp i ver sz e off => obtain ⟨b, q, rfl, _⟩ := hd; rfl
  | un => cases hs

/-- A zero value's cell. -/
def A.ofZ : D → A
  | .sl _ => .nil
  | x => .d x

/-- A symbolic value of a slot. -/
inductive V where
  | one (a : A)
  | agg (cs : List A)
  | tup (vs : List V)
  | un

def DenV1 (H : Heap) (an : Anc) : V → Value → Prop
  | .one a, v => DenA H an a v
  | .agg cs, v => ∃ vs, v = .agg vs.toArray ∧ DenAs H an cs vs
  | .un, _ => True
  | .tup _, _ => False
def DenV (H : Heap) (an : Anc) : V → Value → Prop
  | .tup l, v => ∃ vs, v = .tuple vs.toArray ∧ All2 (DenV1 H an) l vs
  | x, v => DenV1 H an x v

theorem DenV1.mono {H K : Heap} {an bn : Anc} (h : Heap.Le H K) (k : Anc.Le an bn) {x : V} {v : Value} (hd : DenV1 H an x v) : DenV1 K bn x v := by
  cases x with
  | one a => exact DenA.mono h k hd
  | agg cs => obtain ⟨vs, e, hv⟩ := hd; exact ⟨vs, e, All2.mono (fun _ _ => DenA.mono h k) hv⟩
  | tup l => exact hd
  | un => trivial
theorem DenV.mono {H K : Heap} {an bn : Anc} (h : Heap.Le H K) (k : Anc.Le an bn) {x : V} {v : Value} (hd : DenV H an x v) : DenV K bn x v := by
  cases x with
  | tup l => obtain ⟨vs, e, hv⟩ := hd; exact ⟨vs, e, All2.mono (fun _ _ => DenV1.mono h k) hv⟩
  | one a => exact DenV1.mono (x := .one a) h k hd
  | agg cs => exact DenV1.mono (x := .agg cs) h k hd
  | un => trivial

/-- The own chunks of memory. -/
inductive Ch where
  | dead
  | cells (cs : List A)
  | row (sz ver : Nat) (xs : List (List D))
  | map (es : List (V × V))
  | siter (s : ByteArray) (pos : Nat)
  | abs (J : (Nat → Prop) → World → Prop)
  | lp (l : Nat) (fr : List V) (rc : Loop) (st : LoopState) (pd : Option Code)

/-- A chunk lies at an anchor, on just these blocks. -/
def SatCh (H : Heap) (an : Anc) (w : World) : Ch → Nat × Value → (Nat → Prop) → Prop
  | .dead, _, f => ∀ b, ¬ f b
  | .cells cs, p, f => p.1 = 0 ∧ ∃ b T vs, p.2 = .pointer (some ⟨b, 0, none⟩) ∧ (∀ x, f x ↔ x = b) ∧ w.heap[b]? = some (.cells vs.toArray T (0, 0)) ∧ DenAs H an cs vs
  | .row sz ver xs, p, f => p.1 = ver ∧ (∃ a n c, p.2 = .slice a n c) ∧ 0 < sz ∧ (∀ x ∈ xs, x.length = sz) ∧ xs.length < lenMax ∧
      ((xs = [] ∧ (∃ a, p.2 = .slice a 0 0) ∧ ∀ x, ¬ f x) ∨
       ∃ b o cap vs T, p.2 = .slice (some ⟨b, o, none⟩) xs.length cap ∧ (∀ x, f x ↔ x = b) ∧ w.heap[b]? = some (.cells vs T (0, 0)) ∧ xs.length ≤ cap ∧ o + cap * sz ≤ vs.size ∧
         ∀ (i : Nat) (x : List D) (j : Nat) (y : D), xs[i]? = some x → x[j]? = some y → ∃ v, vs[o + i * sz + j]? = some v ∧ Den H y v)
  | .map es, p, f => p.1 = 0 ∧ ∃ b ents clk, p.2 = .map (some b) ∧ (∀ x, f x ↔ x = b) ∧ w.heap[b]? = some (.map ents clk) ∧ All2 (fun e en => DenV1 H an e.1 en.key ∧ DenV1 H an e.2 en.val) es ents.toList
  | .siter s pos, p, f => p.1 = 0 ∧ ∃ b, p.2 = .pointer (some ⟨b, 0, none⟩) ∧ (∀ x, f x ↔ x = b) ∧ w.heap[b]? = some (.stringIter s pos)
  | .abs J, _, f => J f w ∧ ∀ w', (∀ x, f x → w'.heap[x]? = w.heap[x]?) → J f w'
  | .lp l fr rc st pd, _, f => (∀ x, f x ↔ x = l) ∧ w.heap[l]? = some (.loop { rc with state := st, pending := pd }) ∧ All2 (DenV H an) fr rc.tmps.toList

/-- A chunk lies on where its blocks lie on. -/
theorem SatCh.keep {H K : Heap} {an bn : Anc} {w w' : World} {c : Ch} {p : Nat × Value} {f : Nat → Prop} (h : SatCh H an w c p f)
    (hH : Heap.Le H K) (ha : Anc.Le an bn) (hf : ∀ x, f x → w'.heap[x]? = w.heap[x]?) : SatCh K bn w' c p f := by
  cases c with
  | dead => exact h
  | cells cs =>
    obtain ⟨h0, b, T, vs, h1, h2, h3, h4⟩ := h
    exact ⟨h0, b, T, vs, h1, h2, (hf b ((h2 b).2 rfl)).trans h3, All2.mono (fun _ _ => DenA.mono hH ha) h4⟩
  | row sz ver xs =>
    obtain ⟨h0, hs, h1, h2, h3, h4⟩ := h
    refine ⟨h0, hs, h1, h2, h3, ?_⟩
    rcases h4 with h4 | ⟨b, o, cap, vs, T, e1, e2, e3, e4, e5, e6⟩
    · exact .inl h4
    · exact .inr ⟨b, o, cap, vs, T, e1, e2, (hf b ((e2 b).2 rfl)).trans e3, e4, e5, fun i x j y hx hy => let ⟨v, hv, hd⟩ := e6 i x j y hx hy; ⟨v, hv, Den.mono hH hd⟩⟩
  | map es =>
    obtain ⟨h0, b, ents, clk, h1, h2, h3, h4⟩ := h
    exact ⟨h0, b, ents, clk, h1, h2, (hf b ((h2 b).2 rfl)).trans h3, All2.mono (fun _ _ q => ⟨DenV1.mono hH ha q.1, DenV1.mono hH ha q.2⟩) h4⟩
  | siter s pos =>
    obtain ⟨h0, b, h1, h2, h3⟩ := h
    exact ⟨h0, b, h1, h2, (hf b ((h2 b).2 rfl)).trans h3⟩
  | abs J => exact ⟨h.2 w' hf, fun w'' hw => h.2 w'' fun x hx => (hw x hx).trans (hf x hx)⟩
  | lp l fr rc st pd =>
    obtain ⟨h1, h2, h3⟩ := h
    exact ⟨h1, (hf l ((h1 l).2 rfl)).trans h2, All2.mono (fun _ _ => DenV.mono hH ha) h3⟩

end Go.Fw
